/-
 Proof.
-/
import Derived.Test.YtcnmehbkpaoolaaGreatDoorRunA
noncomputable section
namespace Go.Den
open Go.Proofs
set_option maxRecDepth 100000
def d25:Code:=Option.rec .skip (fun c=>c) Tryz.f25.body
def q25:Aj:=[]
def u25:Ay:=[(.root,0)]
def d26:Code:=Option.rec .skip (fun c=>c) Tryz.f26.body
def q26:Aj:=[]
structure J26 where
 a0:AV→H→Prop
def Amr(c:CF)(k:KV)(_J:J26)(v_0:AV)(h:H):Prop:=
 Hp.Cz h Ek fun p1 h2=>
 oK (Ax env (env.ty 121) [(0,v_0)] h2) fun v3 h4=>
 asG v3 fun g5=>
 chk (Nat.ble 1 (len g5))<|
 Hp.Cz h4 (rowOf 121 g5) fun p6 h7=>
 c (.func 49) [(.ptr p6 0),(.bool true)] h7 fun v8 h9=>
 Hp.Cz h9 Ek fun p10 h11=>
 stn 2 (.ptr p10 0) v8 h11 fun h12=>
 oK (Bd (.ptr p6 0) h12) fun v13 h14=>
 Af 2 v13 fun v15=>
 ld1 v15 h14 fun v16=>
 asB v16 fun b17=>
 Ar (fun k18=>gate false b17
 (oK (Bd (.ptr p6 0) h14) fun v21 h22=>
 Af 1 v21 fun v23=>
 ld1 v23 h22 fun v24=>
 asI .i64 v24 fun n25=>
 Hy v_0 fun m26=>
 k18 (Cs n25 (Int.ofNat m26)) h22)
 (k18 true h14)) fun b20 h19=>
 cnd b20
 (oK (Ax env (env.ty 55) [] h19) fun v27 h28=>
 stn 2 (.ptr p1 0) v27 h28 fun h29=>
 ldn 2 (.ptr p1 0) h29 fun v30=>
 k (.tuple [v30,(.bool false)]) h29)
 (ldn 2 (.ptr p10 0) h19 fun v31=>
 stn 2 (.ptr p1 0) v31 h19 fun h32=>
 ldn 2 (.ptr p1 0) h32 fun v33=>
 k (.tuple [v33,(.bool true)]) h32)
def z26:J26:=⟨fun _ _=>False⟩
def r26(c:CF)(k:KV)(m:Nat):J26:=Nat.rec z26 (fun _ J=>⟨Amr c k J⟩) m
def f26(J:J26):Jump:=fun L f h=>match L with
 |0=>J.a0 (f 0) h
 |_=>False
def u26:Ay:=[(.root,0)]
def d29:Code:=Option.rec .skip (fun c=>c) Tryz.f29.body
def q29:Aj:=[]
def u29:Ay:=[(.root,0)]
def d30:Code:=Option.rec .skip (fun c=>c) Tryz.f30.body
def q30:Aj:=[]
def u30:Ay:=[(.root,0),((.l (.r (.l (.r (.r .root))))),1),((.r (.r (.l (.l (.r (.l (.r (.r .root)))))))),2)]
def d31:Code:=Option.rec .skip (fun c=>c) Tryz.f31.body
def q31:Aj:=[(5,[0,1,2]),(10,[0,1,2]),(14,[0,1,2,3,4,5,6,7,8])]
def u31:Ay:=[(.root,0),((.r (.r (.r (.r (.r (.r (.r (.r (.r (.r .root)))))))))),1),((.r (.l (.r (.r (.r (.r (.r (.r (.r (.r (.r .root))))))))))),2)]
def d32:Code:=Option.rec .skip (fun c=>c) Tryz.f32.body
def q32:Aj:=[]
def u32:Ay:=[(.root,0)]
def d46:Code:=Option.rec .skip (fun c=>c) Tryz.f46.body
def q46:Aj:=[(20,[0,1,2,3,4,5,6,7,8,9,10,11,12,13,14,15,16,17]),(27,[0,1,2,3,4,5,6,7,8,9,10,11,12,13,14]),(28,[0,1,2,3,4,5,6,8,9,7,10,11,12,13,14])]
def u46:Ay:=[(.root,0),((.l (.r (.l (.r (.r (.r (.r (.r (.r .root))))))))),1),((.r (.r (.r (.r (.r (.r (.r (.r (.l (.r (.l (.l (.r (.l (.r (.r (.r (.r (.r (.r .root)))))))))))))))))))),2),((.r (.r (.r (.r (.r (.r (.r (.r .root)))))))),3),((.r (.l (.r (.l (.l (.r (.l (.r (.r (.r (.l (.r (.l (.l (.r (.l (.r (.r (.r (.r (.r (.r .root)))))))))))))))))))))),4),((.r (.r (.r (.r (.r (.l (.r (.l (.l (.r (.l (.r (.r (.r (.r (.r (.r .root))))))))))))))))),5)]
def d47:Code:=Option.rec .skip (fun c=>c) Tryz.f47.body
def q47:Aj:=[]
def u47:Ay:=[(.root,0),((.l (.l (.r (.r (.r .root))))),1),((.r (.r (.r (.r (.r (.r (.r (.l (.r (.l (.l (.l (.r (.r (.r .root))))))))))))))),2)]
def d48:Code:=Option.rec .skip (fun c=>c) Tryz.f48.body
def q48:Aj:=[]
def u48:Ay:=[(.root,0),((.l (.r (.l (.r (.r .root))))),1),((.r (.l (.l (.r (.l (.l (.r (.l (.r (.r .root)))))))))),2)]
def d49:Code:=Option.rec .skip (fun c=>c) Tryz.f49.body
def q49:Aj:=[]
structure J49 where
 a0:AV→Bool→H→Prop
 a1:AV→AV→Bool→H→Prop
 a2:AV→AV→AV→Bool→Bool→H→Prop
def Amh(c:CF)(k:KV)(J:J49)(v_0:AV)(b_1:Bool)(h:H):Prop:=
 Hp.Cz h Ek fun p1 h2=>
 c (.func 87) [v_0,(.int .i64 (Int.ofNat 1)),(.bool b_1)] h2 fun v3 h4=>
 Hp.Cz h4 Ek fun p5 h6=>
 stn 2 (.ptr p5 0) v3 h6 fun h7=>
 oK (Bd v_0 h7) fun v8 h9=>
 Af 2 v8 fun v10=>
 ld1 v10 h9 fun v11=>
 asB v11 fun b12=>
 Ar (fun k13=>gate false b12
 (c (.func 88) [v_0,(.str 1 63)] h9 fun v16 h17=>
 asB v16 fun b18=>
 k13 (Ck b18) h17)
 (k13 true h9)) fun b15 h14=>
 cnd b15
 (ldn 2 (.ptr p5 0) h14 fun v19=>
 stn 2 (.ptr p1 0) v19 h14 fun h20=>
 ldn 2 (.ptr p1 0) h20 fun v21=>
 k v21 h20)
 (Ar (fun k22=>gate true b_1
 (Af 0 (.ptr p5 0) fun v25=>
 ld1 v25 h14 fun v26=>
 asI .u64 v26 fun n27=>
 k22 (Ck (Bm n27 (Int.ofNat 0))) h14)
 (k22 false h14)) fun b24 h23=>
 c (.func 49) [v_0,(.bool b24)] h23 fun v28 h29=>
 Hp.Cz h29 Ek fun p30 h31=>
 stn 2 (.ptr p30 0) v28 h31 fun h32=>
 oK (Bd v_0 h32) fun v33 h34=>
 Af 2 v33 fun v35=>
 ld1 v35 h34 fun v36=>
 asB v36 fun b37=>
 Ar (fun k38=>gate false b37
 (c (.func 88) [v_0,(.str 1 58)] h34 fun v41 h42=>
 asB v41 fun b43=>
 k38 (Ck b43) h42)
 (k38 true h34)) fun b40 h39=>
 cnd b40
 (oK (Bd v_0 h39) fun v44 h45=>
 Af 2 v44 fun v46=>
 st1 v46 (.bool true) h45 fun h47=>
 ldn 2 (.ptr p5 0) h47 fun v48=>
 stn 2 (.ptr p1 0) v48 h47 fun h49=>
 ldn 2 (.ptr p1 0) h49 fun v50=>
 k v50 h49)
 (Ar (fun k51=>gate true b_1
 (Af 0 (.ptr p5 0) fun v54=>
 ld1 v54 h39 fun v55=>
 asI .u64 v55 fun n56=>
 k51 (Bm n56 (Int.ofNat 0)) h39)
 (k51 false h39)) fun b53 h52=>
 c (.func 49) [v_0,(.bool b53)] h52 fun v57 h58=>
 Hp.Cz h58 Ek fun p59 h60=>
 stn 2 (.ptr p59 0) v57 h60 fun h61=>
 Af 1 (.ptr p30 0) fun v62=>
 ld1 v62 h61 fun v63=>
 asB v63 fun b64=>
 Ar (fun k65=>gate false b64
 (Af 1 (.ptr p59 0) fun v68=>
 ld1 v68 h61 fun v69=>
 asB v69 fun b70=>
 k65 b70 h61)
 (k65 true h61)) fun b67 h66=>
 Af 0 (.ptr p5 0) fun v71=>
 ld1 v71 h66 fun v72=>
 asI .u64 v72 fun n73=>
 J.a2 (.ptr p1 0) (.ptr p30 0) (.ptr p59 0) b67 (Bm n73 (Int.ofNat 0)) h66))
def Amg(_c:CF)(k:KV)(_J:J49)(v_4 v_6:AV)(b_8:Bool)(h:H):Prop:=
 Af 0 v_6 fun v74=>
 ld1 v74 h fun v75=>
 asI .u64 v75 fun n76=>
 oK (Ax env (env.ty 55) [(0,(.int .u64 n76)),(1,(.bool b_8))] h) fun v77 h78=>
 stn 2 v_4 v77 h78 fun h79=>
 ldn 2 v_4 h79 fun v80=>
 k v80 h79
def Amf(_c:CF)(_k:KV)(J:J49)(v_4 v_6 v_7:AV)(b_8 b_59:Bool)(h:H):Prop:=
 cnd b_59
 (ldn 2 v_7 h fun v81=>
 stn 2 v_6 v81 h fun h82=>
 J.a1 v_4 v_6 b_8 h82)
 (J.a1 v_4 v_6 b_8 h)
def z49:J49:=⟨fun _ _ _=>False,fun _ _ _ _=>False,fun _ _ _ _ _ _=>False⟩
def r49(c:CF)(k:KV)(m:Nat):J49:=Nat.rec z49 (fun _ J=>⟨Amh c k J,Amg c k J,Amf c k J⟩) m
def f49(J:J49):Jump:=fun L f h=>match L with
 |0=>asB (f 1) fun b_1=>J.a0 (f 0) b_1 h
 |1=>asB (f 8) fun b_8=>J.a1 (f 4) (f 6) b_8 h
 |2=>asB (f 8) fun b_8=>asB (f 59) fun b_59=>J.a2 (f 4) (f 6) (f 7) b_8 b_59 h
 |_=>False
def u49:Ay:=[(.root,0),((.r (.r (.r (.r (.r (.r (.r (.r .root)))))))),1),((.r (.l (.r (.r (.r (.r (.r (.r (.r .root))))))))),2)]
def d51:Code:=Option.rec .skip (fun c=>c) Tryz.f51.body
def q51:Aj:=[]
def u51:Ay:=[(.root,0)]
def d52:Code:=Option.rec .skip (fun c=>c) Tryz.f52.body
def q52:Aj:=[(7,[0,1,2,3,4,5,6,7,8,9,10])]
def u52:Ay:=[(.root,0),((.r (.r (.r (.r (.r (.r (.r (.r (.r .root))))))))),1),((.r (.r (.r (.r (.r (.r (.r .root))))))),2),((.r (.l (.r (.r (.r (.r (.r (.r .root)))))))),3)]
def d53:Code:=Option.rec .skip (fun c=>c) Tryz.f53.body
def q53:Aj:=[(5,[0,1,2,3,4,5,6]),(6,[0,1,2,3,4,5,6,7,8,9])]
def u53:Ay:=[(.root,0)]
def d54:Code:=Option.rec .skip (fun c=>c) Tryz.f54.body
def q54:Aj:=[]
def u54:Ay:=[(.root,0)]
def d55:Code:=Option.rec .skip (fun c=>c) Tryz.f55.body
def q55:Aj:=[(6,[0,1,2,3,4,5,6,7,8,9]),(7,[0,2,3,4,5,6,7,9,12,1,10,8,11,13,14,15,16])]
def u55:Ay:=[(.root,0),((.r (.r (.r (.r (.r .root))))),1)]
def d56:Code:=Option.rec .skip (fun c=>c) Tryz.f56.body
def q56:Aj:=[(5,[0,1,2,3,4,5,6,7,8,9,10,11]),(12,[0,1,2,3,4,5,6,7,8,9,10,11,12,13,14,15,16,17,18,19,20,23,21,22,24,25,26,27,28]),(4294967294,[9]),(4294967295,[89])]
def u56:Ay:=[(.root,0),((.l (.r (.l (.r (.r (.r .root)))))),1)]
def d57:Code:=Option.rec .skip (fun c=>c) Tryz.f57.body
def q57:Aj:=[]
def u57:Ay:=[(.root,0)]
def d58:Code:=Option.rec .skip (fun c=>c) Tryz.f58.body
def q58:Aj:=[]
def u58:Ay:=[(.root,0)]
def d59:Code:=Option.rec .skip (fun c=>c) Tryz.f59.body
def q59:Aj:=[(5,[0,1,2,3,4,5,6,7,8,9,10,11,12,13,14,15,16]),(9,[0,1,2,3,4,5])]
structure J59 where
 a0:Nat→Nat→H→Prop
 a1:Nat→Nat→AV→Nat→Nat→H→Prop
 a2:H→Prop
 a3:Nat→Nat→AV→Nat→Nat→Int→Int→H→Prop
def Al8(c:CF)(k:KV)(J:J59)(l_0 c_0:Nat)(h:H):Prop:=
 Hp.Cz h Am3 fun p1 h2=>
 c (.func 60) [(.str l_0 c_0)] h2 fun v3 h4=>
 ext 0 v3 fun v5=>
 asS v5 fun l6 _=>
 ext 1 v3 fun v8=>
 asB v8 fun b9=>
 Gq l_0 c_0 l6 l_0 fun l10 c11=>
 Ar (fun k12=>gate false (Ck b9)
 (k12 (Cs (Int.ofNat l10) (Int.ofNat 2)) h4)
 (k12 true h4)) fun b14 h13=>
 Ar (fun k15=>gate false b14
 (fI (wrap .i64 (Gl (Int.ofNat l10) (Int.ofNat 1))) fun n18=>
 Df n18 fun m19=>
 Dq l10 c11 m19 fun m20=>
 Dq l10 c11 0 fun m21=>
 k15 (Ck (Bm (Int.ofNat m20) (Int.ofNat m21))) h13)
 (k15 true h13)) fun b17 h16=>
 cnd b17
 (J.a2 h16)
 (fI (wrap .i64 (Gl (Int.ofNat l10) (Int.ofNat 1))) fun n22=>
 Df n22 fun m23=>
 Gq l10 c11 1 m23 fun l24 c25=>
 cnd (Bc l24 c25 0 0)
 (c (.func 63) [(.ptr p1 0)] h16 fun v26 h27=>
 asS v26 fun l28 c29=>
 k (.tuple [(.str l28 c29),(.bool true)]) h27)
 (Dq l24 c25 0 fun m30=>
 Dq l10 c11 0 fun m31=>
 cnd (Bm (Int.ofNat m30) (Int.ofNat m31))
 (J.a2 h16)
 (Dq l24 c25 0 fun m32=>
 cnd (Ck (Bm (Int.ofNat m32) (Int.ofNat 92)))
 (Dq l24 c25 0 fun m33=>
 c (.func 107) [(.ptr p1 0),(.int .u8 (Int.ofNat m33))] h16 fun _ h35=>
 Gq l24 c25 1 l24 fun l36 c37=>
 J.a1 l10 c11 (.ptr p1 0) l36 c37 h35)
 (Gq l24 c25 1 l24 fun l38 c39=>
 c (.func 108) [(.str l38 c39)] h16 fun v40 h41=>
 ext 0 v40 fun v42=>
 asI .u8 v42 fun n43=>
 ext 1 v40 fun v44=>
 asI .i64 v44 fun n45=>
 J.a3 l10 c11 (.ptr p1 0) l24 c25 n43 n45 h41))))
def Agx(c:CF)(k:KV)(J:J59)(l_0 c_0:Nat)(v_4:AV)(l_5 c_5:Nat)(h:H):Prop:=
 cnd (Bc l_5 c_5 0 0)
 (c (.func 63) [v_4] h fun v46 h47=>
 asS v46 fun l48 c49=>
 k (.tuple [(.str l48 c49),(.bool true)]) h47)
 (Dq l_5 c_5 0 fun m50=>
 Dq l_0 c_0 0 fun m51=>
 cnd (Bm (Int.ofNat m50) (Int.ofNat m51))
 (J.a2 h)
 (Dq l_5 c_5 0 fun m52=>
 cnd (Ck (Bm (Int.ofNat m52) (Int.ofNat 92)))
 (Dq l_5 c_5 0 fun m53=>
 c (.func 107) [v_4,(.int .u8 (Int.ofNat m53))] h fun _ h55=>
 Gq l_5 c_5 1 l_5 fun l56 c57=>
 J.a1 l_0 c_0 v_4 l56 c57 h55)
 (Gq l_5 c_5 1 l_5 fun l58 c59=>
 c (.func 108) [(.str l58 c59)] h fun v60 h61=>
 ext 0 v60 fun v62=>
 asI .u8 v62 fun n63=>
 ext 1 v60 fun v64=>
 asI .i64 v64 fun n65=>
 cnd (Cs (Int.ofNat 0) n65)
 (c (.func 107) [v_4,(.int .u8 n63)] h61 fun _ h67=>
 fI (wrap .i64 (Cl (Int.ofNat 1) n65)) fun n68=>
 Df n68 fun m69=>
 Gq l_5 c_5 m69 l_5 fun l70 c71=>
 J.a1 l_0 c_0 v_4 l70 c71 h67)
 (k (.tuple [(.str 0 0),(.bool false)]) h61))))
def Agw(_c:CF)(k:KV)(_J:J59)(h:H):Prop:=
 k (.tuple [(.str 0 0),(.bool false)]) h
def Al7(c:CF)(k:KV)(J:J59)(l_0 c_0:Nat)(v_4:AV)(l_5 c_5:Nat)(n_8 n_9:Int)(h:H):Prop:=
 cnd (Cs (Int.ofNat 0) n_9)
 (c (.func 107) [v_4,(.int .u8 n_8)] h fun _ h73=>
 fI (wrap .i64 (Cl (Int.ofNat 1) n_9)) fun n74=>
 Df n74 fun m75=>
 Gq l_5 c_5 m75 l_5 fun l76 c77=>
 J.a1 l_0 c_0 v_4 l76 c77 h73)
 (k (.tuple [(.str 0 0),(.bool false)]) h)
def z59:J59:=⟨fun _ _ _=>False,fun _ _ _ _ _ _=>False,fun _=>False,fun _ _ _ _ _ _ _ _=>False⟩
def r59(c:CF)(k:KV)(m:Nat):J59:=Nat.rec z59 (fun _ J=>⟨Al8 c k J,Agx c k J,Agw c k J,Al7 c k J⟩) m
def f59(J:J59):Jump:=fun L f h=>match L with
 |0=>asS (f 0) fun l_0 c_0=>J.a0 l_0 c_0 h
 |1=>asS (f 0) fun l_0 c_0=>asS (f 5) fun l_5 c_5=>J.a1 l_0 c_0 (f 4) l_5 c_5 h
 |2=>J.a2 h
 |3=>asS (f 0) fun l_0 c_0=>asS (f 5) fun l_5 c_5=>asI .u8 (f 8) fun n_8=>asI .i64 (f 9) fun n_9=>J.a3 l_0 c_0 (f 4) l_5 c_5 n_8 n_9 h
 |_=>False
def u59:Ay:=[(.root,0),((.lab (.r .root) 1),1),((.lab (.r .root) 0),2),((.r (.l (.r (.r (.r (.r (.r (.r (.r (.l (.r .root))))))))))),3)]
def d60:Code:=Option.rec .skip (fun c=>c) Tryz.f60.body
def q60:Aj:=[]
structure J60 where
 a0:Nat→Nat→H→Prop
 a1:Nat→Nat→AV→Int→Int→H→Prop
def Al6(_c:CF)(_k:KV)(J:J60)(l_0 c_0:Nat)(h:H):Prop:=
 oK (Ao env 44 (fun e ei=>Ai 5 [(0,(.str 0 0)),(1,(.str 1 76)),(2,(.str 1 117)),(3,(.str 1 85)),(4,(.str 2 14453))] h e ei)) fun v1 h2=>
 Hy v1 fun m3=>
 J.a1 l_0 c_0 v1 (Int.ofNat m3) (Int.ofNat 0) h2
def Al5(c:CF)(k:KV)(J:J60)(l_0 c_0:Nat)(v_8:AV)(n_9 n_10:Int)(h:H):Prop:=
 cnd (Cs n_10 n_9)
 (Df n_10 fun m4=>
 Dj 1 m4 v_8 fun v5=>
 ld1 v5 h fun v6=>
 asS v6 fun l7 c8=>
 c (.func 109) [(.str l_0 c_0),(.str l7 c8)] h fun v9 h10=>
 ext 0 v9 fun v11=>
 asS v11 fun l12 c13=>
 ext 1 v9 fun v14=>
 asB v14 fun b15=>
 Ar (fun k16=>gate true b15
 (k16 (Ck (Bc l12 c13 0 0)) h10)
 (k16 false h10)) fun b18 h17=>
 Ar (fun k19=>gate true b18
 (Dq l12 c13 0 fun m22=>
 Ar (fun k23=>gate false (Bm (Int.ofNat m22) (Int.ofNat 34))
 (Dq l12 c13 0 fun m26=>
 k23 (Bm (Int.ofNat m26) (Int.ofNat 39)) h17)
 (k23 true h17)) fun b25 h24=>
 k19 b25 h24)
 (k19 false h17)) fun b21 h20=>
 cnd b21
 (k (.tuple [(.str l7 c8),(.bool true)]) h20)
 (fI (wrap .i64 (Cl n_10 (Int.ofNat 1))) fun n27=>
 J.a1 l_0 c_0 v_8 n_9 n27 h20))
 (k (.tuple [(.str 0 0),(.bool false)]) h)
def z60:J60:=⟨fun _ _ _=>False,fun _ _ _ _ _ _=>False⟩
def r60(c:CF)(k:KV)(m:Nat):J60:=Nat.rec z60 (fun _ J=>⟨Al6 c k J,Al5 c k J⟩) m
def f60(J:J60):Jump:=fun L f h=>match L with
 |0=>asS (f 0) fun l_0 c_0=>J.a0 l_0 c_0 h
 |1=>asS (f 0) fun l_0 c_0=>asI .i64 (f 9) fun n_9=>asI .i64 (f 10) fun n_10=>J.a1 l_0 c_0 (f 8) n_9 n_10 h
 |_=>False
def u60:Ay:=[(.root,0),((.l (.r (.l (.r .root)))),1)]
def d61:Code:=Option.rec .skip (fun c=>c) Tryz.f61.body
def q61:Aj:=[]
structure J61 where
 a0:AV→Nat→Nat→H→Prop
def Al4(c:CF)(k:KV)(_J:J61)(v_0:AV)(l_1 c_1:Nat)(h:H):Prop:=
 c (.func 110) [v_0] h fun _ h2=>
 oK (Bd v_0 h2) fun v3 h4=>
 Af 1 v3 fun v5=>
 ld1 v5 h4 fun v6=>
 oK (Cb env .append [115,9] [v6,(.str l_1 c_1)] h4) fun v7 h8=>
 oK (Bd v_0 h8) fun v9 h10=>
 Af 1 v9 fun v11=>
 st1 v11 v7 h10 fun h12=>
 k (.tuple [(.int .i64 (Int.ofNat l_1)),.Ie]) h12
def z61:J61:=⟨fun _ _ _ _=>False⟩
def r61(c:CF)(k:KV)(m:Nat):J61:=Nat.rec z61 (fun _ J=>⟨Al4 c k J⟩) m
def f61(J:J61):Jump:=fun L f h=>match L with
 |0=>asS (f 1) fun l_1 c_1=>J.a0 (f 0) l_1 c_1 h
 |_=>False
def u61:Ay:=[(.root,0)]
def d63:Code:=Option.rec .skip (fun c=>c) Tryz.f63.body
def q63:Aj:=[(1,[0,1,2,3,4,5,6,7,8,9,10,11])]
structure J63 where
 a0:AV→H→Prop
def Al3(_c:CF)(k:KV)(_J:J63)(v_0:AV)(h:H):Prop:=
 oK (Bd v_0 h) fun v1 h2=>
 Af 1 v1 fun v3=>
 ld1 v3 h2 fun v4=>
 oK (Cb env .unsafeSliceData [115] [v4] h2) fun v5 h6=>
 oK (Bd v_0 h6) fun v7 h8=>
 Af 1 v7 fun v9=>
 ld1 v9 h8 fun v10=>
 Hy v10 fun m11=>
 oK (Cb env .unsafeString [225,3] [v5,(.int .i64 (Int.ofNat m11))] h8) fun v12 h13=>
 asS v12 fun l14 c15=>
 k (.str l14 c15) h13
def z63:J63:=⟨fun _ _=>False⟩
def r63(c:CF)(k:KV)(m:Nat):J63:=Nat.rec z63 (fun _ J=>⟨Al3 c k J⟩) m
def f63(J:J63):Jump:=fun L f h=>match L with
 |0=>J.a0 (f 0) h
 |_=>False
def u63:Ay:=[(.root,0)]
def d64:Code:=Option.rec .skip (fun c=>c) Tryz.f64.body
def q64:Aj:=[(5,[0,1,2,3,4])]
structure J64 where
 a0:Nat→Nat→H→Prop
 a1:AV→Nat→Nat→Bool→Bool→Int→Nat→Nat→H→Prop
def Al2(c:CF)(_k:KV)(J:J64)(l_0 c_0:Nat)(h:H):Prop:=
 Hp.Cz h Ek fun p1 h2=>
 c (.func 112) [(.str l_0 c_0),(.str 4 1282168181)] h2 fun v3 h4=>
 asS v3 fun l5 c6=>
 Gq l_0 c_0 l5 l_0 fun l7 c8=>
 c (.func 113) [(.str l7 c8)] h4 fun v9 h10=>
 ext 0 v9 fun v11=>
 asB v11 fun b12=>
 ext 1 v9 fun v13=>
 asB v13 fun b14=>
 c (.func 114) [(.str l5 c6)] h10 fun v15 h16=>
 asB v15 fun b17=>
 cnd b17
 (Gq l5 c6 2 l5 fun l18 c19=>
 J.a1 (.ptr p1 0) l18 c19 b12 b14 (Int.ofNat 16) 22 26291342665239622251265189840170011249128153612955952 h16)
 (c (.func 115) [(.str l5 c6),(.str 1 48)] h16 fun v20 h21=>
 asB v20 fun b22=>
 cnd b22
 (J.a1 (.ptr p1 0) l5 c6 b12 b14 (Int.ofNat 8) 8 3978425819141910832 h21)
 (J.a1 (.ptr p1 0) l5 c6 b12 b14 (Int.ofNat 10) 10 270211885617516653982000 h21))
def Al1(c:CF)(k:KV)(_J:J64)(v_2:AV)(l_4 c_4:Nat)(b_5 b_6:Bool)(n_7:Int)(l_8 c_8:Nat)(h:H):Prop:=
 Ar (fun k23=>gate false (Ck b_6)
 (k23 (Bc l_4 c_4 0 0) h)
 (k23 true h)) fun b25 h24=>
 Ar (fun k26=>gate false b25
 (c (.func 116) [(.str l_4 c_4),(.str l_8 c_8)] h24 fun v29 h30=>
 asI .i64 v29 fun n31=>
 k26 (Ck (Bm n31 (Int.ofNat l_4))) h30)
 (k26 true h24)) fun b28 h27=>
 cnd b28
 (oK (Ax env (env.ty 55) [] h27) fun v32 h33=>
 stn 2 v_2 v32 h33 fun h34=>
 ldn 2 v_2 h34 fun v35=>
 k (.tuple [v35,(.bool false)]) h34)
 (c (.func 117) [(.str l_4 c_4),(.int .i64 n_7),(.int .i64 (Int.ofNat 64))] h27 fun v36 h37=>
 ext 0 v36 fun v38=>
 asI .u64 v38 fun n39=>
 ext 1 v36 fun v40=>
 oV (Qk env .neq 151 v40 .Ie) fun v41=>
 asB v41 fun b42=>
 cnd b42
 (oK (Ax env (env.ty 55) [] h37) fun v43 h44=>
 stn 2 v_2 v43 h44 fun h45=>
 ldn 2 v_2 h45 fun v46=>
 k (.tuple [v46,(.bool false)]) h45)
 (Ar (fun k47=>gate false b_5
 (k47 (Cs (Int.ofNat 9223372036854775807) n39) h37)
 (k47 true h37)) fun b49 h48=>
 oK (Ax env (env.ty 55) [(0,(.int .u64 n39)),(1,(.bool b49))] h48) fun v50 h51=>
 stn 2 v_2 v50 h51 fun h52=>
 ldn 2 v_2 h52 fun v53=>
 k (.tuple [v53,(.bool true)]) h52))
def z64:J64:=⟨fun _ _ _=>False,fun _ _ _ _ _ _ _ _ _=>False⟩
def r64(c:CF)(k:KV)(m:Nat):J64:=Nat.rec z64 (fun _ J=>⟨Al2 c k J,Al1 c k J⟩) m
def f64(J:J64):Jump:=fun L f h=>match L with
 |0=>asS (f 0) fun l_0 c_0=>J.a0 l_0 c_0 h
 |1=>asS (f 4) fun l_4 c_4=>asB (f 5) fun b_5=>asB (f 6) fun b_6=>asI .i64 (f 7) fun n_7=>asS (f 8) fun l_8 c_8=>J.a1 (f 2) l_4 c_4 b_5 b_6 n_7 l_8 c_8 h
 |_=>False
def u64:Ay:=[(.root,0),((.r (.r (.r (.r (.r .root))))),1)]
def d66:Code:=Option.rec .skip (fun c=>c) Tryz.f66.body
def q66:Aj:=[]
structure J66 where
 a0:Nat→Nat→H→Prop
 a1:AV→Nat→Nat→Nat→Nat→Int→Int→Int→H→Prop
 a2:AV→Nat→Nat→Int→H→Prop
def Al0(c:CF)(k:KV)(J:J66)(l_0 c_0:Nat)(h:H):Prop:=
 Hp.Cz h Ek fun p1 h2=>
 c (.func 59) [(.str l_0 c_0)] h2 fun v3 h4=>
 ext 0 v3 fun v5=>
 asS v5 fun l6 c7=>
 ext 1 v3 fun v8=>
 asB v8 fun b9=>
 c (.func 60) [(.str l_0 c_0)] h4 fun v10 h11=>
 ext 0 v10 fun v12=>
 asS v12 fun l13 c14=>
 ext 1 v10 fun v15=>
 asB v15 fun _=>
 Ar (fun k17=>gate false (Ck b9)
 (k17 (Bc l13 c14 2 14453) h11)
 (k17 true h11)) fun b19 h18=>
 Ar (fun k20=>gate false b19
 (Dq l_0 c_0 l13 fun m23=>
 k20 (Ck (Bm (Int.ofNat m23) (Int.ofNat 39))) h18)
 (k20 true h18)) fun b22 h21=>
 Ar (fun k24=>gate false b22
 (k24 (Bc l6 c7 0 0) h21)
 (k24 true h21)) fun b26 h25=>
 Ar (fun k27=>gate false b26
 (k27 (Cs (Int.ofNat 8) (Int.ofNat l6)) h25)
 (k27 true h25)) fun b29 h28=>
 cnd b29
 (oK (Ax env (env.ty 55) [] h28) fun v30 h31=>
 stn 2 (.ptr p1 0) v30 h31 fun h32=>
 ldn 2 (.ptr p1 0) h32 fun v33=>
 k (.tuple [v33,(.bool false)]) h32)
 (Dq l6 c7 0 fun m34=>
 fI (wrap .i8 (Int.ofNat m34)) fun n35=>
 fI (wrap .i64 n35) fun n36=>
 cnd (Cs (Int.ofNat 1) (Int.ofNat l6))
 (J.a1 (.ptr p1 0) l6 c7 l13 c14 (Int.ofNat 0) (Int.ofNat l6) (Int.ofNat 0) h28)
 (J.a2 (.ptr p1 0) l13 c14 n36 h28))
def Alz(_c:CF)(_k:KV)(J:J66)(v_2:AV)(l_4 c_4:Nat)(l_6 c_6:Nat)(n_9 n_52 n_53:Int)(h:H):Prop:=
 cnd (Cs n_53 n_52)
 (Acz .u32 n_9 (Int.ofNat 8) fun n37=>
 Df n_53 fun m38=>
 Dq l_4 c_4 m38 fun m39=>
 fI (wrap .u32 (Int.ofNat m39)) fun n40=>
 Ll Nat.lor .u32 n37 n40 fun n41=>
 fI (wrap .i64 (Cl n_53 (Int.ofNat 1))) fun n42=>
 J.a1 v_2 l_4 c_4 l_6 c_6 n41 n_52 n42 h)
 (fI (wrap .i32 n_9) fun n43=>
 fI (wrap .i64 n43) fun n44=>
 J.a2 v_2 l_6 c_6 n44 h)
def Aly(_c:CF)(k:KV)(_J:J66)(v_2:AV)(l_6 c_6:Nat)(n_8:Int)(h:H):Prop:=
 fI (wrap .u64 n_8) fun n45=>
 Ar (fun k46=>gate false (Bc l_6 c_6 1 117)
 (k46 (Bc l_6 c_6 1 85) h)
 (k46 true h)) fun b48 h47=>
 oK (Ax env (env.ty 55) [(0,(.int .u64 n45)),(1,(.bool b48))] h47) fun v49 h50=>
 stn 2 v_2 v49 h50 fun h51=>
 ldn 2 v_2 h51 fun v52=>
 k (.tuple [v52,(.bool true)]) h51
def z66:J66:=⟨fun _ _ _=>False,fun _ _ _ _ _ _ _ _ _=>False,fun _ _ _ _ _=>False⟩
def r66(c:CF)(k:KV)(m:Nat):J66:=Nat.rec z66 (fun _ J=>⟨Al0 c k J,Alz c k J,Aly c k J⟩) m
def f66(J:J66):Jump:=fun L f h=>match L with
 |0=>asS (f 0) fun l_0 c_0=>J.a0 l_0 c_0 h
 |1=>asS (f 4) fun l_4 c_4=>asS (f 6) fun l_6 c_6=>asI .u32 (f 9) fun n_9=>asI .i64 (f 52) fun n_52=>asI .i64 (f 53) fun n_53=>J.a1 (f 2) l_4 c_4 l_6 c_6 n_9 n_52 n_53 h
 |2=>asS (f 6) fun l_6 c_6=>asI .i64 (f 8) fun n_8=>J.a2 (f 2) l_6 c_6 n_8 h
 |_=>False
def u66:Ay:=[(.root,0),((.l (.r (.l (.r (.l (.r (.l (.r (.r (.r (.r (.r .root)))))))))))),1),((.r (.r (.r (.r (.r (.r .root)))))),2)]
def d77:Code:=Option.rec .skip (fun c=>c) Tryz.f77.body
def q77:Aj:=[]
def u77:Ay:=[(.root,0)]
def d78:Code:=Option.rec .skip (fun c=>c) Tryz.f78.body
def q78:Aj:=[]
def u78:Ay:=[(.root,0)]
def d79:Code:=Option.rec .skip (fun c=>c) Tryz.f79.body
def q79:Aj:=[]
def u79:Ay:=[(.root,0),((.l (.l (.r (.l (.r (.l (.r (.r .root)))))))),1),((.l (.r (.l (.r (.r (.r (.r .root))))))),2)]
def d80:Code:=Option.rec .skip (fun c=>c) Tryz.f80.body
def q80:Aj:=[]
def u80:Ay:=[(.root,0),((.l (.l (.r (.l (.r (.l (.r (.r (.r .root))))))))),1),((.r (.r (.r .root))),2)]
def d81:Code:=Option.rec .skip (fun c=>c) Tryz.f81.body
def q81:Aj:=[]
def u81:Ay:=[(.root,0),((.l (.r (.l (.r (.r .root))))),1)]
def d82:Code:=Option.rec .skip (fun c=>c) Tryz.f82.body
def q82:Aj:=[]
def u82:Ay:=[(.root,0),((.l (.r (.l (.r .root)))),1)]
def d83:Code:=Option.rec .skip (fun c=>c) Tryz.f83.body
def q83:Aj:=[]
def u83:Ay:=[(.root,0)]
def d84:Code:=Option.rec .skip (fun c=>c) Tryz.f84.body
def q84:Aj:=[]
def u84:Ay:=[(.root,0)]
def d85:Code:=Option.rec .skip (fun c=>c) Tryz.f85.body
def q85:Aj:=[]
def u85:Ay:=[(.root,0)]
def d86:Code:=Option.rec .skip (fun c=>c) Tryz.f86.body
def q86:Aj:=[]
def u86:Ay:=[(.root,0)]
def d87:Code:=Option.rec .skip (fun c=>c) Tryz.f87.body
def q87:Aj:=[(7,[0,1,2,3,4,5,6,8,7,9,10])]
structure J87 where
 a0:AV→Int→Bool→H→Prop
 a1:AV→Int→Bool→AV→AV→H→Prop
def Alk(c:CF)(_k:KV)(J:J87)(v_0:AV)(n_1:Int)(b_2:Bool)(h:H):Prop:=
 Hp.Cz h Ek fun p1 h2=>
 c (.func 139) [v_0,(.bool b_2)] h2 fun v3 h4=>
 Hp.Cz h4 Ek fun p5 h6=>
 stn 2 (.ptr p5 0) v3 h6 fun h7=>
 J.a1 v_0 n_1 b_2 (.ptr p1 0) (.ptr p5 0) h7
def Agu(c:CF)(k:KV)(J:J87)(v_0:AV)(n_1:Int)(b_2:Bool)(v_6 v_7:AV)(h:H):Prop:=
 oK (Bd v_0 h) fun v8 h9=>
 Af 2 v8 fun v10=>
 ld1 v10 h9 fun v11=>
 asB v11 fun b12=>
 cnd (Ck b12)
 (c (.func 140) [v_0] h9 fun v13 h14=>
 ext 0 v13 fun v15=>
 asS v15 fun l16 c17=>
 ext 1 v13 fun v18=>
 asI .i64 v18 fun n19=>
 Ar (fun k20=>gate false (Bm n19 (Int.ofNat 0))
 (k20 (Cs n19 n_1) h14)
 (k20 true h14)) fun b22 h21=>
 cnd b22
 (ldn 2 v_7 h21 fun v23=>
 stn 2 v_6 v23 h21 fun h24=>
 ldn 2 v_6 h24 fun v25=>
 k v25 h24)
 (oK (Bd v_0 h21) fun v26 h27=>
 Af 1 v26 fun v28=>
 ld1 v28 h27 fun v29=>
 asI .i64 v29 fun n30=>
 fI (wrap .i64 (Cl n30 (Int.ofNat 1))) fun n31=>
 oK (Bd v_0 h27) fun v32 h33=>
 Af 1 v32 fun v34=>
 st1 v34 (.int .i64 n31) h33 fun h35=>
 cnd (Bc l16 c17 2 31868)
 (fI (wrap .i64 (Cl n19 (Int.ofNat 1))) fun n36=>
 Ar (fun k37=>gate true b_2
 (Af 0 v_7 fun v40=>
 ld1 v40 h35 fun v41=>
 asI .u64 v41 fun n42=>
 k37 (Bm n42 (Int.ofNat 0)) h35)
 (k37 false h35)) fun b39 h38=>
 c (.func 87) [v_0,(.int .i64 n36),(.bool b39)] h38 fun v43 h44=>
 Hp.Cz h44 Ek fun p45 h46=>
 stn 2 (.ptr p45 0) v43 h46 fun h47=>
 Af 0 v_7 fun v48=>
 ld1 v48 h47 fun v49=>
 asI .u64 v49 fun n50=>
 Ar (fun k51=>gate false (Ck (Bm n50 (Int.ofNat 0)))
 (Af 0 (.ptr p45 0) fun v54=>
 ld1 v54 h47 fun v55=>
 asI .u64 v55 fun n56=>
 k51 (Ck (Bm n56 (Int.ofNat 0))) h47)
 (k51 true h47)) fun b53 h52=>
 c (.func 141) [(.bool b53)] h52 fun v57 h58=>
 stn 2 v_7 v57 h58 fun h59=>
 J.a1 v_0 n_1 b_2 v_6 v_7 h59)
 (cnd (Bc l16 c17 2 9766)
 (fI (wrap .i64 (Cl n19 (Int.ofNat 1))) fun n60=>
 Ar (fun k61=>gate true b_2
 (Af 0 v_7 fun v64=>
 ld1 v64 h35 fun v65=>
 asI .u64 v65 fun n66=>
 k61 (Ck (Bm n66 (Int.ofNat 0))) h35)
 (k61 false h35)) fun b63 h62=>
 c (.func 87) [v_0,(.int .i64 n60),(.bool b63)] h62 fun v67 h68=>
 Hp.Cz h68 Ek fun p69 h70=>
 stn 2 (.ptr p69 0) v67 h70 fun h71=>
 Af 0 v_7 fun v72=>
 ld1 v72 h71 fun v73=>
 asI .u64 v73 fun n74=>
 Ar (fun k75=>gate true (Ck (Bm n74 (Int.ofNat 0)))
 (Af 0 (.ptr p69 0) fun v78=>
 ld1 v78 h71 fun v79=>
 asI .u64 v79 fun n80=>
 k75 (Ck (Bm n80 (Int.ofNat 0))) h71)
 (k75 false h71)) fun b77 h76=>
 c (.func 141) [(.bool b77)] h76 fun v81 h82=>
 stn 2 v_7 v81 h82 fun h83=>
 J.a1 v_0 n_1 b_2 v_6 v_7 h83)
 (ldn 2 v_7 h35 fun v84=>
 fI (wrap .i64 (Cl n19 (Int.ofNat 1))) fun n85=>
 c (.func 87) [v_0,(.int .i64 n85),(.bool b_2)] h35 fun v86 h87=>
 ldn 2 v_7 h87 fun v88=>
 eqC v88 v84<|
 c (.func 142) [v_0,(.str l16 c17),v84,v86,(.bool b_2)] h87 fun v89 h90=>
 stn 2 v_7 v89 h90 fun h91=>
 J.a1 v_0 n_1 b_2 v_6 v_7 h91))))
 (ldn 2 v_7 h9 fun v92=>
 stn 2 v_6 v92 h9 fun h93=>
 ldn 2 v_6 h93 fun v94=>
 k v94 h93)
def z87:J87:=⟨fun _ _ _ _=>False,fun _ _ _ _ _ _=>False⟩
def r87(c:CF)(k:KV)(m:Nat):J87:=Nat.rec z87 (fun _ J=>⟨Alk c k J,Agu c k J⟩) m
def f87(J:J87):Jump:=fun L f h=>match L with
 |0=>asI .i64 (f 1) fun n_1=>asB (f 2) fun b_2=>J.a0 (f 0) n_1 b_2 h
 |1=>asI .i64 (f 1) fun n_1=>asB (f 2) fun b_2=>J.a1 (f 0) n_1 b_2 (f 6) (f 7) h
 |_=>False
def u87:Ay:=[(.root,0),((.l (.l (.r (.r .root)))),1)]
def d88:Code:=Option.rec .skip (fun c=>c) Tryz.f88.body
def q88:Aj:=[(1,[0,1,2,3,4,5,6,7,8,9,10,11,12,13,14,15,16,17,18,19,20,21,22,23,24])]
structure J88 where
 a0:AV→Nat→Nat→H→Prop
def Alj(c:CF)(k:KV)(_J:J88)(v_0:AV)(l_1 c_1:Nat)(h:H):Prop:=
 oK (Bd v_0 h) fun v1 h2=>
 Af 1 v1 fun v3=>
 ld1 v3 h2 fun v4=>
 asI .i64 v4 fun n5=>
 oK (Bd v_0 h2) fun v6 h7=>
 Af 0 v6 fun v8=>
 ld1 v8 h7 fun v9=>
 Hy v9 fun m10=>
 Ar (fun k11=>gate true (Cs n5 (Int.ofNat m10))
 (oK (Bd v_0 h7) fun v14 h15=>
 Af 0 v14 fun v16=>
 ld1 v16 h15 fun v17=>
 oK (Bd v_0 h15) fun v18 h19=>
 Af 1 v18 fun v20=>
 ld1 v20 h19 fun v21=>
 asI .i64 v21 fun n22=>
 Df n22 fun m23=>
 Dj 8 m23 v17 fun v24=>
 ldn 8 v24 h19 fun v25=>
 c (.func 136) [v25,(.str l_1 c_1)] h19 fun v26 h27=>
 asB v26 fun b28=>
 k11 b28 h27)
 (k11 false h7)) fun b13 h12=>
 cnd b13
 (oK (Bd v_0 h12) fun v29 h30=>
 Af 1 v29 fun v31=>
 ld1 v31 h30 fun v32=>
 asI .i64 v32 fun n33=>
 fI (wrap .i64 (Cl n33 (Int.ofNat 1))) fun n34=>
 oK (Bd v_0 h30) fun v35 h36=>
 Af 1 v35 fun v37=>
 st1 v37 (.int .i64 n34) h36 fun h38=>
 k (.bool b13) h38)
 (k (.bool b13) h12)
def z88:J88:=⟨fun _ _ _ _=>False⟩
def r88(c:CF)(k:KV)(m:Nat):J88:=Nat.rec z88 (fun _ J=>⟨Alj c k J⟩) m
def f88(J:J88):Jump:=fun L f h=>match L with
 |0=>asS (f 1) fun l_1 c_1=>J.a0 (f 0) l_1 c_1 h
 |_=>False
def u88:Ay:=[(.root,0)]
def d92:Code:=Option.rec .skip (fun c=>c) Tryz.f92.body
def q92:Aj:=[]
def u92:Ay:=[(.root,0)]
def d93:Code:=Option.rec .skip (fun c=>c) Tryz.f93.body
def q93:Aj:=[]
structure J93 where
 a0:AV→Nat→Nat→H→Prop
def Alf(_c:CF)(k:KV)(_J:J93)(v_0:AV)(l_1 c_1:Nat)(h:H):Prop:=
 asG v_0 fun g1=>
 chk (Nat.ble 1 (len g1))<|
 Hp.Cz h (rowOf 43 g1) fun p2 h3=>
 Af 0 (.ptr p2 0) fun v4=>
 ld1 v4 h3 fun v5=>
 asI .i64 v5 fun n6=>
 Ar (fun k7=>gate true (Bm n6 (Int.ofNat 5))
 (Af 1 (.ptr p2 0) fun v10=>
 ld1 v10 h3 fun v11=>
 asS v11 fun l12 c13=>
 k7 (Bc l12 c13 l_1 c_1) h3)
 (k7 false h3)) fun b9 h8=>
 k (.bool b9) h8
def z93:J93:=⟨fun _ _ _ _=>False⟩
def r93(c:CF)(k:KV)(m:Nat):J93:=Nat.rec z93 (fun _ J=>⟨Alf c k J⟩) m
def f93(J:J93):Jump:=fun L f h=>match L with
 |0=>asS (f 1) fun l_1 c_1=>J.a0 (f 0) l_1 c_1 h
 |_=>False
def u93:Ay:=[(.root,0)]
def d95:Code:=Option.rec .skip (fun c=>c) Tryz.f95.body
def q95:Aj:=[(5,[0,1,2,3,4,5,6,7,8,9,10,11,12,13,14,15,16,17,18,19,20,21,22,23,24,25,26,27,28])]
def u95:Ay:=[(.root,0),((.l (.r (.l (.r .root)))),1),((.r (.r (.r (.l (.l (.r (.l (.l (.r (.l (.r .root))))))))))),2)]
def d96:Code:=Option.rec .skip (fun c=>c) Tryz.f96.body
def q96:Aj:=[(1,[0,1,3,4,2,6,5,7,8,9])]
def u96:Ay:=[(.root,0)]
def d98:Code:=Option.rec .skip (fun c=>c) Tryz.f98.body
def q98:Aj:=[(4,[0,1,2,3,4,5,6,7,8,9,10,11,12,13,14,15,16,17,18,19,20,21])]
def u98:Ay:=[(.root,0),((.l (.l (.r (.r .root)))),1)]
def d100:Code:=Option.rec .skip (fun c=>c) Tryz.f100.body
def A38:Aj:=[]
def A19:Ay:=[(.root,0)]
def d101:Code:=Option.rec .skip (fun c=>c) Tryz.f101.body
def A37:Aj:=[]
def A18:Ay:=[(.root,0)]
def d102:Code:=Option.rec .skip (fun c=>c) Tryz.f102.body
def A36:Aj:=[(3,[0,1,2,3,4,5,6,7,8,9,10,11,12,13,14])]
def A17:Ay:=[(.root,0),((.l (.l (.r .root))),1)]
def d103:Code:=Option.rec .skip (fun c=>c) Tryz.f103.body
def A35:Aj:=[]
def A16:Ay:=[(.root,0),((.l (.r (.l (.r (.r .root))))),1),((.l (.r (.l (.r (.r (.r (.r .root))))))),2)]
def d104:Code:=Option.rec .skip (fun c=>c) Tryz.f104.body
def A34:Aj:=[]
def A15:Ay:=[(.root,0)]
def d105:Code:=Option.rec .skip (fun c=>c) Tryz.f105.body
def A33:Aj:=[(6,[0,1,2,3,4,5,6,7,8,9]),(11,[0,1,2,3,4,5,6,7,8,9])]
def A14:Ay:=[(.root,0),((.l (.r (.l (.r (.r .root))))),1),((.l (.r (.l (.r (.l (.r (.l (.l (.r (.l (.l (.r (.l (.r (.r .root))))))))))))))),2),((.r (.r (.l (.l (.r (.l (.r (.l (.r (.l (.l (.r (.l (.l (.r (.l (.r (.r .root)))))))))))))))))),3)]
def d107:Code:=Option.rec .skip (fun c=>c) Tryz.f107.body
def Bb1:Aj:=[]
structure Av5 where
 a0:AV→Int→H→Prop
def Aeu(c:CF)(k:KV)(_J:Av5)(v_0:AV)(n_1:Int)(h:H):Prop:=
 c (.func 110) [v_0] h fun _ h2=>
 oK (Bd v_0 h2) fun v3 h4=>
 Af 1 v3 fun v5=>
 ld1 v5 h4 fun v6=>
 oK (Ao env 115 (fun e ei=>Ai 1 [(0,(.int .u8 n_1))] h4 e ei)) fun v7 h8=>
 oK (Cb env .append [115,115] [v6,v7] h8) fun v9 h10=>
 oK (Bd v_0 h10) fun v11 h12=>
 Af 1 v11 fun v13=>
 st1 v13 v9 h12 fun h14=>
 k .Ie h14
def z107:Av5:=⟨fun _ _ _=>False⟩
def Ars(c:CF)(k:KV)(m:Nat):Av5:=Nat.rec z107 (fun _ J=>⟨Aeu c k J⟩) m
def f107(J:Av5):Jump:=fun L f h=>match L with
 |0=>asI .u8 (f 1) fun n_1=>J.a0 (f 0) n_1 h
 |_=>False
def Bau:Ay:=[(.root,0)]
def d108:Code:=Option.rec .skip (fun c=>c) Tryz.f108.body
def Aw2:Aj:=[]
structure Agd where
 a0:Nat→Nat→H→Prop
 a1:Int→Int→Int→AV→H→Prop
 a2:Nat→Nat→Int→Int→Int→H→Prop
def Aet(c:CF)(k:KV)(J:Agd)(l_0 c_0:Nat)(h:H):Prop:=
 cnd (Bc l_0 c_0 0 0)
 (k (.tuple [(.int .u8 (Int.ofNat 0)),(.int .i64 (Int.ofNat 0))]) h)
 (Dq l_0 c_0 0 fun m1=>
 c (.func 160) [(.str 11 143203152110517486444552743),(.int .u8 (Int.ofNat m1))] h fun v2 h3=>
 asI .i64 v2 fun n4=>
 cnd (Er (Int.ofNat 0) n4)
 (Df n4 fun m5=>
 Dq 11 13340925845742173758104103 m5 fun m6=>
 k (.tuple [(.int .u8 (Int.ofNat m6)),(.int .i64 (Int.ofNat 1))]) h3)
 (c (.func 116) [(.str l_0 c_0),(.str 8 3978425819141910832)] h3 fun v7 h8=>
 asI .i64 v7 fun n9=>
 oK (Cb env .min [3,3] [(.int .i64 n9),(.int .i64 (Int.ofNat 3))] h8) fun v10 h11=>
 asI .i64 v10 fun n12=>
 Dq l_0 c_0 0 fun m13=>
 cnd (Bm (Int.ofNat m13) (Int.ofNat 120))
 (Gq l_0 c_0 1 l_0 fun l14 c15=>
 c (.func 116) [(.str l14 c15),(.str 22 26291342665239622251265189840170011249128153612955952)] h11 fun v16 h17=>
 asI .i64 v16 fun n18=>
 fI (wrap .i64 (Cl (Int.ofNat 1) n18)) fun n19=>
 J.a2 l_0 c_0 n19 (Int.ofNat 16) (Int.ofNat 1) h17)
 (J.a2 l_0 c_0 n12 (Int.ofNat 8) (Int.ofNat 0) h11)))
def Aes(c:CF)(k:KV)(J:Agd)(n_5 n_6 n_8:Int)(v_38:AV)(h:H):Prop:=
 oK (Te v_38 true h) fun v20 h21=>
 ext 0 v20 fun v22=>
 asB v22 fun b23=>
 cnd b23
 (ext 2 v20 fun v24=>
 asI .i32 v24 fun n25=>
 fI (wrap .i64 (n_8*n_6)) fun n26=>
 c (.func 162) [(.str 22 26291342665239622251265189840170011249128153612955952),(.int .i32 n25)] h21 fun v27 h28=>
 asI .i64 v27 fun n29=>
 fI (wrap .i64 (Cl n26 n29)) fun n30=>
 Ll Nat.land .i64 n30 (Int.ofNat 4095) fun n31=>
 J.a1 n_5 n_6 n31 v_38 h28)
 (fI (wrap .u8 n_8) fun n32=>
 k (.tuple [(.int .u8 n32),(.int .i64 n_5)]) h21)
def Aer(c:CF)(k:KV)(J:Agd)(l_0 c_0:Nat)(n_5 n_6 n_7:Int)(h:H):Prop:=
 cnd (Er n_5 n_7)
 (k (.tuple [(.int .u8 (Int.ofNat 0)),(.int .i64 (Int.ofNat 0))]) h)
 (Df n_5 fun m33=>
 Df n_7 fun m34=>
 Gq l_0 c_0 m34 m33 fun l35 c36=>
 c (.func 161) [(.str l35 c36)] h fun v37 h38=>
 asS v37 fun l39 c40=>
 oK (Oj env 9 (.str l39 c40) h38) fun v41 h42=>
 J.a1 n_5 n_6 (Int.ofNat 0) v41 h42)
def Bgt:Agd:=⟨fun _ _ _=>False,fun _ _ _ _ _=>False,fun _ _ _ _ _ _=>False⟩
def Yz(c:CF)(k:KV)(m:Nat):Agd:=Nat.rec Bgt (fun _ J=>⟨Aet c k J,Aes c k J,Aer c k J⟩) m
def f108(J:Agd):Jump:=fun L f h=>match L with
 |0=>asS (f 0) fun l_0 c_0=>J.a0 l_0 c_0 h
 |1=>asI .i64 (f 5) fun n_5=>asI .i64 (f 6) fun n_6=>asI .i64 (f 8) fun n_8=>J.a1 n_5 n_6 n_8 (f 38) h
 |2=>asS (f 0) fun l_0 c_0=>asI .i64 (f 5) fun n_5=>asI .i64 (f 6) fun n_6=>asI .i64 (f 7) fun n_7=>J.a2 l_0 c_0 n_5 n_6 n_7 h
 |_=>False
def Awh:Ay:=[(.root,0),((.l (.r (.l (.r (.r (.r (.r (.r (.r (.r .root)))))))))),1),((.r (.r (.r (.r (.r .root))))),2)]
def d109:Code:=Option.rec .skip (fun c=>c) Tryz.f109.body
def Bb0:Aj:=[]
structure Av4 where
 a0:Nat→Nat→Nat→Nat→H→Prop
def Aeq(c:CF)(k:KV)(_J:Av4)(l_0 c_0:Nat)(l_1 c_1:Nat)(h:H):Prop:=
 c (.func 163) [(.str l_0 c_0),(.str l_1 c_1)] h fun v1 h2=>
 ext 0 v1 fun v3=>
 asS v3 fun l4 c5=>
 ext 1 v1 fun v6=>
 asB v6 fun b7=>
 k (.tuple [(.str l4 c5),(.bool b7)]) h2
def z109:Av4:=⟨fun _ _ _ _ _=>False⟩
def Arr(c:CF)(k:KV)(m:Nat):Av4:=Nat.rec z109 (fun _ J=>⟨Aeq c k J⟩) m
def f109(J:Av4):Jump:=fun L f h=>match L with
 |0=>asS (f 0) fun l_0 c_0=>asS (f 1) fun l_1 c_1=>J.a0 l_0 c_0 l_1 c_1 h
 |_=>False
def Bat:Ay:=[(.root,0)]
def d110:Code:=Option.rec .skip (fun c=>c) Tryz.f110.body
def Bbz:Aj:=[]
structure Av3 where
 a0:AV→H→Prop
def Aep(c:CF)(k:KV)(_J:Av3)(v_0:AV)(h:H):Prop:=
 oK (Bd v_0 h) fun v1 h2=>
 Af 0 v1 fun v3=>
 ld1 v3 h2 fun v4=>
 oV (Qk env .eql 147 v4 .Gk) fun v5=>
 asB v5 fun b6=>
 cnd b6
 (oK (Fs env h2 147 258 v_0) fun v7 h8=>
 c (.func 164) [v7] h8 fun v9 h10=>
 oK (Fs env h10 258 147 v9) fun v11 h12=>
 oK (Bd v_0 h12) fun v13 h14=>
 Af 0 v13 fun v15=>
 st1 v15 v11 h14 fun h16=>
 k (.tuple []) h16)
 (oK (Bd v_0 h2) fun v17 h18=>
 Af 0 v17 fun v19=>
 ld1 v19 h18 fun v20=>
 oV (Qk env .neq 147 v20 v_0) fun v21=>
 asB v21 fun b22=>
 cnd b22
 (False)
 (k (.tuple []) h18))
def Bgs:Av3:=⟨fun _ _=>False⟩
def Arq(c:CF)(k:KV)(m:Nat):Av3:=Nat.rec Bgs (fun _ J=>⟨Aep c k J⟩) m
def f110(J:Av3):Jump:=fun L f h=>match L with
 |0=>J.a0 (f 0) h
 |_=>False
def Bas:Ay:=[(.root,0)]
def d112:Code:=Option.rec .skip (fun c=>c) Tryz.f112.body
def Bby:Aj:=[]
structure Av2 where
 a0:Nat→Nat→Nat→Nat→H→Prop
def Aeo(c:CF)(k:KV)(_J:Av2)(l_0 c_0:Nat)(l_1 c_1:Nat)(h:H):Prop:=
 Ar (fun k1=>gate false (Bc l_0 c_0 0 0)
 (k1 (Bc l_1 c_1 0 0) h)
 (k1 true h)) fun b3 h2=>
 cnd b3
 (k (.str l_0 c_0) h2)
 (Ar (fun k4=>gate true (Bm (Int.ofNat l_1) (Int.ofNat 1))
 (Dq l_1 c_1 0 fun m7=>
 k4 (Cs (Int.ofNat m7) (Int.ofNat 128)) h2)
 (k4 false h2)) fun b6 h5=>
 cnd b6
 (Dq l_1 c_1 0 fun m8=>
 c (.func 167) [(.str l_0 c_0),(.int .u8 (Int.ofNat m8))] h5 fun v9 h10=>
 asS v9 fun l11 c12=>
 k (.str l11 c12) h10)
 (c (.func 168) [(.str l_1 c_1)] h5 fun v13 h14=>
 ext 0 v13 fun v15=>
 ext 1 v13 fun v16=>
 asB v16 fun b17=>
 Hp.Cz h14 Ayw fun p18 h19=>
 stn 256 (.ptr p18 0) v15 h19 fun h20=>
 cnd b17
 (c (.func 169) [(.str l_0 c_0),(.ptr p18 0)] h20 fun v21 h22=>
 asS v21 fun l23 c24=>
 k (.str l23 c24) h22)
 (c (.func 170) [(.str l_0 c_0),(.str l_1 c_1)] h20 fun v25 h26=>
 asS v25 fun l27 c28=>
 k (.str l27 c28) h26)))
def Bgr:Av2:=⟨fun _ _ _ _ _=>False⟩
def Arp(c:CF)(k:KV)(m:Nat):Av2:=Nat.rec Bgr (fun _ J=>⟨Aeo c k J⟩) m
def f112(J:Av2):Jump:=fun L f h=>match L with
 |0=>asS (f 0) fun l_0 c_0=>asS (f 1) fun l_1 c_1=>J.a0 l_0 c_0 l_1 c_1 h
 |_=>False
def Bar:Ay:=[(.root,0)]
def d113:Code:=Option.rec .skip (fun c=>c) Tryz.f113.body
def A32:Aj:=[(3,[0,1,2,3]),(5,[0,1,2,3,4,5,6])]
structure Ak7 where
 a0:Nat→Nat→H→Prop
 a1:Nat→Nat→Bool→H→Prop
def Aen(_c:CF)(_k:KV)(J:Ak7)(l_0 c_0:Nat)(h:H):Prop:=
 cnd (Bc l_0 c_0 0 0)
 (J.a1 l_0 c_0 false h)
 (Dq l_0 c_0 0 fun m1=>
 Ar (fun k2=>gate false (Bm (Int.ofNat m1) (Int.ofNat 117))
 (Dq l_0 c_0 0 fun m5=>
 k2 (Bm (Int.ofNat m5) (Int.ofNat 85)) h)
 (k2 true h)) fun b4 h3=>
 cnd b4
 (Gq l_0 c_0 1 l_0 fun l6 c7=>
 J.a1 l6 c7 true h3)
 (fI (wrap .i64 (Gl (Int.ofNat l_0) (Int.ofNat 1))) fun n8=>
 Df n8 fun m9=>
 Dq l_0 c_0 m9 fun m10=>
 Ar (fun k11=>gate false (Bm (Int.ofNat m10) (Int.ofNat 117))
 (fI (wrap .i64 (Gl (Int.ofNat l_0) (Int.ofNat 1))) fun n14=>
 Df n14 fun m15=>
 Dq l_0 c_0 m15 fun m16=>
 k11 (Bm (Int.ofNat m16) (Int.ofNat 85)) h3)
 (k11 true h3)) fun b13 h12=>
 cnd b13
 (fI (wrap .i64 (Gl (Int.ofNat l_0) (Int.ofNat 1))) fun n17=>
 Df n17 fun m18=>
 Gq l_0 c_0 0 m18 fun l19 c20=>
 J.a1 l19 c20 true h12)
 (J.a1 l_0 c_0 false h12)))
def Aem(_c:CF)(k:KV)(_J:Ak7)(l_0 c_0:Nat)(b_2:Bool)(h:H):Prop:=
 Ar (fun k21=>gate false (Bc l_0 c_0 0 0)
 (k21 (Bc l_0 c_0 1 108) h)
 (k21 true h)) fun b23 h22=>
 Ar (fun k24=>gate false b23
 (k24 (Bc l_0 c_0 1 76) h22)
 (k24 true h22)) fun b26 h25=>
 Ar (fun k27=>gate false b26
 (k27 (Bc l_0 c_0 2 27756) h25)
 (k27 true h25)) fun b29 h28=>
 Ar (fun k30=>gate false b29
 (k30 (Bc l_0 c_0 2 19532) h28)
 (k30 true h28)) fun b32 h31=>
 k (.tuple [(.bool b_2),(.bool b32)]) h31
def Bgq:Ak7:=⟨fun _ _ _=>False,fun _ _ _ _=>False⟩
def Ahb(c:CF)(k:KV)(m:Nat):Ak7:=Nat.rec Bgq (fun _ J=>⟨Aen c k J,Aem c k J⟩) m
def f113(J:Ak7):Jump:=fun L f h=>match L with
 |0=>asS (f 0) fun l_0 c_0=>J.a0 l_0 c_0 h
 |1=>asS (f 0) fun l_0 c_0=>asB (f 2) fun b_2=>J.a1 l_0 c_0 b_2 h
 |_=>False
def A13:Ay:=[(.root,0),((.r (.r .root)),1)]
def d114:Code:=Option.rec .skip (fun c=>c) Tryz.f114.body
def Bbx:Aj:=[]
structure Av1 where
 a0:Nat→Nat→H→Prop
def Ael(c:CF)(k:KV)(_J:Av1)(l_0 c_0:Nat)(h:H):Prop:=
 c (.func 115) [(.str l_0 c_0),(.str 2 30768)] h fun v1 h2=>
 asB v1 fun b3=>
 Ar (fun k4=>gate false b3
 (c (.func 115) [(.str l_0 c_0),(.str 2 22576)] h2 fun v7 h8=>
 asB v7 fun b9=>
 k4 b9 h8)
 (k4 true h2)) fun b6 h5=>
 k (.bool b6) h5
def Bgp:Av1:=⟨fun _ _ _=>False⟩
def Aro(c:CF)(k:KV)(m:Nat):Av1:=Nat.rec Bgp (fun _ J=>⟨Ael c k J⟩) m
def f114(J:Av1):Jump:=fun L f h=>match L with
 |0=>asS (f 0) fun l_0 c_0=>J.a0 l_0 c_0 h
 |_=>False
def Baq:Ay:=[(.root,0)]
def d115:Code:=Option.rec .skip (fun c=>c) Tryz.f115.body
def Bbw:Aj:=[]
structure Av0 where
 a0:Nat→Nat→Nat→Nat→H→Prop
def Ajj(c:CF)(k:KV)(_J:Av0)(l_0 c_0:Nat)(l_1 c_1:Nat)(h:H):Prop:=
 c (.func 171) [(.str l_0 c_0),(.str l_1 c_1)] h fun v1 h2=>
 asB v1 fun b3=>
 k (.bool b3) h2
def Bgo:Av0:=⟨fun _ _ _ _ _=>False⟩
def Arn(c:CF)(k:KV)(m:Nat):Av0:=Nat.rec Bgo (fun _ J=>⟨Ajj c k J⟩) m
def f115(J:Av0):Jump:=fun L f h=>match L with
 |0=>asS (f 0) fun l_0 c_0=>asS (f 1) fun l_1 c_1=>J.a0 l_0 c_0 l_1 c_1 h
 |_=>False
def Bap:Ay:=[(.root,0)]
def d116:Code:=Option.rec .skip (fun c=>c) Tryz.f116.body
def Bbv:Aj:=[]
structure Avz where
 a0:Nat→Nat→Nat→Nat→H→Prop
def Aek(c:CF)(k:KV)(_J:Avz)(l_0 c_0:Nat)(l_1 c_1:Nat)(h:H):Prop:=
 c (.func 172) [(.str l_0 c_0),(.str l_1 c_1)] h fun v1 h2=>
 asS v1 fun l3 _=>
 fI (wrap .i64 (Gl (Int.ofNat l_0) (Int.ofNat l3))) fun n5=>
 k (.int .i64 n5) h2
def z116:Avz:=⟨fun _ _ _ _ _=>False⟩
def Arm(c:CF)(k:KV)(m:Nat):Avz:=Nat.rec z116 (fun _ J=>⟨Aek c k J⟩) m
def f116(J:Avz):Jump:=fun L f h=>match L with
 |0=>asS (f 0) fun l_0 c_0=>asS (f 1) fun l_1 c_1=>J.a0 l_0 c_0 l_1 c_1 h
 |_=>False
def Bao:Ay:=[(.root,0)]
def d117:Code:=Option.rec .skip (fun c=>c) Tryz.f117.body
def Bbu:Aj:=[]
structure Avy where
 a0:Nat→Nat→Int→Int→H→Prop
def Aej(c:CF)(k:KV)(_J:Avy)(l_0 c_0:Nat)(n_1 n_2:Int)(h:H):Prop:=
 c (.func 173) [(.str l_0 c_0),(.int .i64 n_1),(.int .i64 n_2)] h fun v1 h2=>
 ext 0 v1 fun v3=>
 asI .u64 v3 fun n4=>
 ext 1 v1 fun v5=>
 oV (Qk env .neq 151 v5 .Ie) fun v6=>
 asB v6 fun b7=>
 cnd b7
 (c (.func 174) [(.str 9 2147778296661251613008),(.str l_0 c_0),(.int .i64 n_1),(.int .i64 n_2),v5] h2 fun v8 h9=>
 k (.tuple [(.int .u64 n4),v8]) h9)
 (k (.tuple [(.int .u64 n4),.Ie]) h2)
def z117:Avy:=⟨fun _ _ _ _ _=>False⟩
def Arl(c:CF)(k:KV)(m:Nat):Avy:=Nat.rec z117 (fun _ J=>⟨Aej c k J⟩) m
def f117(J:Avy):Jump:=fun L f h=>match L with
 |0=>asS (f 0) fun l_0 c_0=>asI .i64 (f 1) fun n_1=>asI .i64 (f 2) fun n_2=>J.a0 l_0 c_0 n_1 n_2 h
 |_=>False
def Ban:Ay:=[(.root,0)]
def d120:Code:=Option.rec .skip (fun c=>c) Tryz.f120.body
def A31:Aj:=[]
def A12:Ay:=[(.root,0)]
def d127:Code:=Option.rec .skip (fun c=>c) Tryz.f127.body
def A3z:Aj:=[]
def A10:Ay:=[(.root,0),((.l (.r (.l (.r (.r .root))))),1),((.r (.r (.l (.l (.r (.l (.r (.r .root)))))))),2)]
def d128:Code:=Option.rec .skip (fun c=>c) Tryz.f128.body
def A3y:Aj:=[]
def A1z:Ay:=[(.root,0),((.l (.r (.l (.r (.r .root))))),1),((.r (.l (.r (.l (.l (.r (.l (.r (.r .root))))))))),2)]
def d129:Code:=Option.rec .skip (fun c=>c) Tryz.f129.body
def A3x:Aj:=[]
def A1y:Ay:=[(.root,0)]
def d130:Code:=Option.rec .skip (fun c=>c) Tryz.f130.body
def A3w:Aj:=[]
def A1x:Ay:=[(.root,0)]
def d132:Code:=Option.rec .skip (fun c=>c) Tryz.f132.body
def A3v:Aj:=[]
def A1w:Ay:=[(.root,0)]
def d133:Code:=Option.rec .skip (fun c=>c) Tryz.f133.body
def A3u:Aj:=[]
def A1v:Ay:=[(.root,0)]
def d134:Code:=Option.rec .skip (fun c=>c) Tryz.f134.body
def A3t:Aj:=[]
def A1u:Ay:=[(.root,0),((.l (.r (.r (.r .root)))),1)]
def d135:Code:=Option.rec .skip (fun c=>c) Tryz.f135.body
def A3s:Aj:=[(6,[0,1,2,3,4,5,6,7,8,9,10,11,13,14,15,16,17,18,12,19,20])]
def A1t:Ay:=[(.root,0),((.l (.r (.l (.r (.r .root))))),1),((.l (.l (.r (.l (.l (.r (.l (.l (.r (.l (.r (.r .root)))))))))))),2)]
def d136:Code:=Option.rec .skip (fun c=>c) Tryz.f136.body
def Bbt:Aj:=[]
structure Avx where
 a0:AV→Nat→Nat→H→Prop
def Aeg(_c:CF)(k:KV)(_J:Avx)(v_0:AV)(l_1 c_1:Nat)(h:H):Prop:=
 asG v_0 fun g1=>
 chk (Nat.ble 1 (len g1))<|
 Hp.Cz h (rowOf 43 g1) fun p2 h3=>
 Af 0 (.ptr p2 0) fun v4=>
 ld1 v4 h3 fun v5=>
 asI .i64 v5 fun n6=>
 Ar (fun k7=>gate true (Bm n6 (Int.ofNat 5))
 (Af 1 (.ptr p2 0) fun v10=>
 ld1 v10 h3 fun v11=>
 asS v11 fun l12 c13=>
 k7 (Bc l12 c13 l_1 c_1) h3)
 (k7 false h3)) fun b9 h8=>
 k (.bool b9) h8
def Bgm:Avx:=⟨fun _ _ _ _=>False⟩
def Ark(c:CF)(k:KV)(m:Nat):Avx:=Nat.rec Bgm (fun _ J=>⟨Aeg c k J⟩) m
def f136(J:Avx):Jump:=fun L f h=>match L with
 |0=>asS (f 1) fun l_1 c_1=>J.a0 (f 0) l_1 c_1 h
 |_=>False
def Bam:Ay:=[(.root,0)]
def d137:Code:=Option.rec .skip (fun c=>c) Tryz.f137.body
def A3r:Aj:=[]
def A1s:Ay:=[(.root,0)]
def d138:Code:=Option.rec .skip (fun c=>c) Tryz.f138.body
def A3q:Aj:=[]
def A1r:Ay:=[(.root,0),((.l (.r .root)),1)]
def d139:Code:=Option.rec .skip (fun c=>c) Tryz.f139.body
def Bbs:Aj:=[]
structure Avw where
 a0:AV→Bool→H→Prop
def Aef(c:CF)(k:KV)(_J:Avw)(v_0:AV)(b_1:Bool)(h:H):Prop:=
 Hp.Cz h Ek fun p1 h2=>
 c (.func 88) [v_0,(.str 1 43)] h2 fun v3 h4=>
 asB v3 fun b5=>
 cnd b5
 (c (.func 139) [v_0,(.bool b_1)] h4 fun v6 h7=>
 stn 2 (.ptr p1 0) v6 h7 fun h8=>
 ldn 2 (.ptr p1 0) h8 fun v9=>
 k v9 h8)
 (c (.func 88) [v_0,(.str 1 45)] h4 fun v10 h11=>
 asB v10 fun b12=>
 cnd b12
 (c (.func 139) [v_0,(.bool b_1)] h11 fun v13 h14=>
 stn 2 (.ptr p1 0) v13 h14 fun h15=>
 Af 0 (.ptr p1 0) fun v16=>
 ld1 v16 h15 fun v17=>
 asI .u64 v17 fun n18=>
 oV (unA .neg (.int .u64 n18)) fun v19=>
 asI .u64 v19 fun n20=>
 Af 0 (.ptr p1 0) fun v21=>
 st1 v21 (.int .u64 n20) h15 fun h22=>
 ldn 2 (.ptr p1 0) h22 fun v23=>
 stn 2 (.ptr p1 0) v23 h22 fun h24=>
 ldn 2 (.ptr p1 0) h24 fun v25=>
 k v25 h24)
 (c (.func 88) [v_0,(.str 1 126)] h11 fun v26 h27=>
 asB v26 fun b28=>
 cnd b28
 (c (.func 139) [v_0,(.bool b_1)] h27 fun v29 h30=>
 stn 2 (.ptr p1 0) v29 h30 fun h31=>
 Af 0 (.ptr p1 0) fun v32=>
 ld1 v32 h31 fun v33=>
 asI .u64 v33 fun n34=>
 oV (unA .xor (.int .u64 n34)) fun v35=>
 asI .u64 v35 fun n36=>
 Af 0 (.ptr p1 0) fun v37=>
 st1 v37 (.int .u64 n36) h31 fun h38=>
 ldn 2 (.ptr p1 0) h38 fun v39=>
 stn 2 (.ptr p1 0) v39 h38 fun h40=>
 ldn 2 (.ptr p1 0) h40 fun v41=>
 k v41 h40)
 (c (.func 88) [v_0,(.str 1 33)] h27 fun v42 h43=>
 asB v42 fun b44=>
 cnd b44
 (c (.func 139) [v_0,(.bool b_1)] h43 fun v45 h46=>
 Apf 0 v45 fun v47=>
 asI .u64 v47 fun n48=>
 c (.func 141) [(.bool (Bm n48 (Int.ofNat 0)))] h46 fun v49 h50=>
 stn 2 (.ptr p1 0) v49 h50 fun h51=>
 ldn 2 (.ptr p1 0) h51 fun v52=>
 k v52 h51)
 (c (.func 88) [v_0,(.str 1 40)] h43 fun v53 h54=>
 asB v53 fun b55=>
 cnd b55
 (c (.func 49) [v_0,(.bool b_1)] h54 fun v56 h57=>
 stn 2 (.ptr p1 0) v56 h57 fun h58=>
 oK (Bd v_0 h58) fun v59 h60=>
 Af 2 v59 fun v61=>
 ld1 v61 h60 fun v62=>
 asB v62 fun b63=>
 Ar (fun k64=>gate false b63
 (c (.func 88) [v_0,(.str 1 41)] h60 fun v67 h68=>
 asB v67 fun b69=>
 k64 (Ck b69) h68)
 (k64 true h60)) fun b66 h65=>
 oK (Bd v_0 h65) fun v70 h71=>
 Af 2 v70 fun v72=>
 st1 v72 (.bool b66) h71 fun h73=>
 ldn 2 (.ptr p1 0) h73 fun v74=>
 stn 2 (.ptr p1 0) v74 h73 fun h75=>
 ldn 2 (.ptr p1 0) h75 fun v76=>
 k v76 h75)
 (c (.func 184) [v_0] h54 fun v77 h78=>
 stn 2 (.ptr p1 0) v77 h78 fun h79=>
 ldn 2 (.ptr p1 0) h79 fun v80=>
 k v80 h79)))))
def z139:Avw:=⟨fun _ _ _=>False⟩
def Arj(c:CF)(k:KV)(m:Nat):Avw:=Nat.rec z139 (fun _ J=>⟨Aef c k J⟩) m
def f139(J:Avw):Jump:=fun L f h=>match L with
 |0=>asB (f 1) fun b_1=>J.a0 (f 0) b_1 h
 |_=>False
def Bal:Ay:=[(.root,0)]
def d140:Code:=Option.rec .skip (fun c=>c) Tryz.f140.body
def A3p:Aj:=[(1,[0,1,2,3,4,5,6,7,8,9,10,11,12,13,14,15,16,17,18,19,20,21,22,23]),(3,[0,1,2,3,4,5,6,7,8,9,10,11])]
structure Ak5 where
 a0:AV→H→Prop
 a1:Nat→Nat→AV→Int→Int→H→Prop
def Aee(_c:CF)(k:KV)(J:Ak5)(v_0:AV)(h:H):Prop:=
 oK (Bd v_0 h) fun v1 h2=>
 Af 1 v1 fun v3=>
 ld1 v3 h2 fun v4=>
 asI .i64 v4 fun n5=>
 oK (Bd v_0 h2) fun v6 h7=>
 Af 0 v6 fun v8=>
 ld1 v8 h7 fun v9=>
 Hy v9 fun m10=>
 Ar (fun k11=>gate false (Er (Int.ofNat m10) n5)
 (oK (Bd v_0 h7) fun v14 h15=>
 Af 0 v14 fun v16=>
 ld1 v16 h15 fun v17=>
 oK (Bd v_0 h15) fun v18 h19=>
 Af 1 v18 fun v20=>
 ld1 v20 h19 fun v21=>
 asI .i64 v21 fun n22=>
 Df n22 fun m23=>
 Dj 8 m23 v17 fun v24=>
 Af 0 v24 fun v25=>
 ld1 v25 h19 fun v26=>
 asI .i64 v26 fun n27=>
 k11 (Ck (Bm n27 (Int.ofNat 5))) h19)
 (k11 true h7)) fun b13 h12=>
 cnd b13
 (k (.tuple [(.str 0 0),(.int .i64 (Int.ofNat 0))]) h12)
 (oK (Bd v_0 h12) fun v28 h29=>
 Af 0 v28 fun v30=>
 ld1 v30 h29 fun v31=>
 oK (Bd v_0 h29) fun v32 h33=>
 Af 1 v32 fun v34=>
 ld1 v34 h33 fun v35=>
 asI .i64 v35 fun n36=>
 Df n36 fun m37=>
 Dj 8 m37 v31 fun v38=>
 Af 1 v38 fun v39=>
 ld1 v39 h33 fun v40=>
 asS v40 fun l41 c42=>
 oK (Ao env 44 (fun e ei=>Ai 1 [(0,(.str 2 31868))] h33 e ei)) fun v43 h44=>
 oK (Ao env 44 (fun e ei=>Ai 1 [(0,(.str 2 9766))] h44 e ei)) fun v45 h46=>
 oK (Ao env 44 (fun e ei=>Ai 1 [(0,(.str 1 124))] h46 e ei)) fun v47 h48=>
 oK (Ao env 44 (fun e ei=>Ai 1 [(0,(.str 1 94))] h48 e ei)) fun v49 h50=>
 oK (Ao env 44 (fun e ei=>Ai 1 [(0,(.str 1 38))] h50 e ei)) fun v51 h52=>
 oK (Ao env 44 (fun e ei=>Ai 2 [(0,(.str 2 15677)),(1,(.str 2 15649))] h52 e ei)) fun v53 h54=>
 oK (Ao env 44 (fun e ei=>Ai 4 [(0,(.str 1 60)),(1,(.str 1 62)),(2,(.str 2 15676)),(3,(.str 2 15678))] h54 e ei)) fun v55 h56=>
 oK (Ao env 44 (fun e ei=>Ai 2 [(0,(.str 2 15420)),(1,(.str 2 15934))] h56 e ei)) fun v57 h58=>
 oK (Ao env 44 (fun e ei=>Ai 2 [(0,(.str 1 43)),(1,(.str 1 45))] h58 e ei)) fun v59 h60=>
 oK (Ao env 44 (fun e ei=>Ai 3 [(0,(.str 1 42)),(1,(.str 1 47)),(2,(.str 1 37))] h60 e ei)) fun v61 h62=>
 oK (Ao env 245 (fun e ei=>Ai 10 [(0,v43),(1,v45),(2,v47),(3,v49),(4,v51),(5,v53),(6,v55),(7,v57),(8,v59),(9,v61)] h62 e ei)) fun v63 h64=>
 Hy v63 fun m65=>
 J.a1 l41 c42 v63 (Int.ofNat m65) (Int.ofNat 0) h64)
def Aed(c:CF)(k:KV)(J:Ak5)(l_2 c_2:Nat)(v_51:AV)(n_52 n_53:Int)(h:H):Prop:=
 cnd (Cs n_53 n_52)
 (Df n_53 fun m66=>
 Dj 1 m66 v_51 fun v67=>
 ld1 v67 h fun v68=>
 c (.func 185) [v68,(.str l_2 c_2)] h fun v69 h70=>
 asB v69 fun b71=>
 cnd b71
 (fI (wrap .i64 (Cl n_53 (Int.ofNat 1))) fun n72=>
 k (.tuple [(.str l_2 c_2),(.int .i64 n72)]) h70)
 (fI (wrap .i64 (Cl n_53 (Int.ofNat 1))) fun n73=>
 J.a1 l_2 c_2 v_51 n_52 n73 h70))
 (k (.tuple [(.str 0 0),(.int .i64 (Int.ofNat 0))]) h)
def Bgl:Ak5:=⟨fun _ _=>False,fun _ _ _ _ _ _=>False⟩
def Aex(c:CF)(k:KV)(m:Nat):Ak5:=Nat.rec Bgl (fun _ J=>⟨Aee c k J,Aed c k J⟩) m
def f140(J:Ak5):Jump:=fun L f h=>match L with
 |0=>J.a0 (f 0) h
 |1=>asS (f 2) fun l_2 c_2=>asI .i64 (f 52) fun n_52=>asI .i64 (f 53) fun n_53=>J.a1 l_2 c_2 (f 51) n_52 n_53 h
 |_=>False
def A1q:Ay:=[(.root,0),((.l (.r (.l (.r (.r (.r .root)))))),1)]
def d141:Code:=Option.rec .skip (fun c=>c) Tryz.f141.body
def A3o:Aj:=[]
def A1p:Ay:=[(.root,0)]
def d142:Code:=Option.rec .skip (fun c=>c) Tryz.f142.body
def Aw1:Aj:=[]
structure Agc where
 a0:AV→Nat→Nat→AV→AV→Bool→H→Prop
 a1:Nat→Nat→AV→AV→AV→Bool→Bool→H→Prop
 a2:AV→Nat→Nat→Bool→AV→AV→AV→Bool→AV→Nat→Nat→Bool→H→Prop
def Aec(_c:CF)(k:KV)(J:Agc)(v_0:AV)(l_1 c_1:Nat)(v_2 v_3:AV)(b_4:Bool)(h:H):Prop:=
 asG v_2 fun g1=>
 chk (Nat.ble 1 (len g1))<|
 Hp.Cz h (rowOf 55 g1) fun p2 h3=>
 asG v_3 fun g4=>
 chk (Nat.ble 1 (len g4))<|
 Hp.Cz h3 (rowOf 55 g4) fun p5 h6=>
 Hp.Cz h6 Ek fun p7 h8=>
 Af 1 (.ptr p2 0) fun v9=>
 ld1 v9 h8 fun v10=>
 asB v10 fun b11=>
 Ar (fun k12=>gate false b11
 (Af 1 (.ptr p5 0) fun v15=>
 ld1 v15 h8 fun v16=>
 asB v16 fun b17=>
 k12 b17 h8)
 (k12 true h8)) fun b14 h13=>
 oK (Ax env (env.ty 55) [(1,(.bool b14))] h13) fun v18 h19=>
 Hp.Cz h19 Ek fun p20 h21=>
 stn 2 (.ptr p20 0) v18 h21 fun h22=>
 cnd (Bc l_1 c_1 1 124)
 (Af 0 (.ptr p2 0) fun v23=>
 ld1 v23 h22 fun v24=>
 asI .u64 v24 fun n25=>
 Af 0 (.ptr p5 0) fun v26=>
 ld1 v26 h22 fun v27=>
 asI .u64 v27 fun n28=>
 Ll Nat.lor .u64 n25 n28 fun n29=>
 Af 0 (.ptr p20 0) fun v30=>
 st1 v30 (.int .u64 n29) h22 fun h31=>
 ldn 2 (.ptr p20 0) h31 fun v32=>
 stn 2 (.ptr p7 0) v32 h31 fun h33=>
 ldn 2 (.ptr p7 0) h33 fun v34=>
 k v34 h33)
 (cnd (Bc l_1 c_1 1 94)
 (Af 0 (.ptr p2 0) fun v35=>
 ld1 v35 h22 fun v36=>
 asI .u64 v36 fun n37=>
 Af 0 (.ptr p5 0) fun v38=>
 ld1 v38 h22 fun v39=>
 asI .u64 v39 fun n40=>
 Ll Nat.xor .u64 n37 n40 fun n41=>
 Af 0 (.ptr p20 0) fun v42=>
 st1 v42 (.int .u64 n41) h22 fun h43=>
 ldn 2 (.ptr p20 0) h43 fun v44=>
 stn 2 (.ptr p7 0) v44 h43 fun h45=>
 ldn 2 (.ptr p7 0) h45 fun v46=>
 k v46 h45)
 (cnd (Bc l_1 c_1 1 38)
 (Af 0 (.ptr p2 0) fun v47=>
 ld1 v47 h22 fun v48=>
 asI .u64 v48 fun n49=>
 Af 0 (.ptr p5 0) fun v50=>
 ld1 v50 h22 fun v51=>
 asI .u64 v51 fun n52=>
 Ll Nat.land .u64 n49 n52 fun n53=>
 Af 0 (.ptr p20 0) fun v54=>
 st1 v54 (.int .u64 n53) h22 fun h55=>
 ldn 2 (.ptr p20 0) h55 fun v56=>
 stn 2 (.ptr p7 0) v56 h55 fun h57=>
 ldn 2 (.ptr p7 0) h57 fun v58=>
 k v58 h57)
 (cnd (Bc l_1 c_1 1 43)
 (Af 0 (.ptr p2 0) fun v59=>
 ld1 v59 h22 fun v60=>
 asI .u64 v60 fun n61=>
 Af 0 (.ptr p5 0) fun v62=>
 ld1 v62 h22 fun v63=>
 asI .u64 v63 fun n64=>
 fI (wrap .u64 (Cl n61 n64)) fun n65=>
 Af 0 (.ptr p20 0) fun v66=>
 st1 v66 (.int .u64 n65) h22 fun h67=>
 ldn 2 (.ptr p20 0) h67 fun v68=>
 stn 2 (.ptr p7 0) v68 h67 fun h69=>
 ldn 2 (.ptr p7 0) h69 fun v70=>
 k v70 h69)
 (cnd (Bc l_1 c_1 1 45)
 (Af 0 (.ptr p2 0) fun v71=>
 ld1 v71 h22 fun v72=>
 asI .u64 v72 fun n73=>
 Af 0 (.ptr p5 0) fun v74=>
 ld1 v74 h22 fun v75=>
 asI .u64 v75 fun n76=>
 fI (wrap .u64 (Gl n73 n76)) fun n77=>
 Af 0 (.ptr p20 0) fun v78=>
 st1 v78 (.int .u64 n77) h22 fun h79=>
 ldn 2 (.ptr p20 0) h79 fun v80=>
 stn 2 (.ptr p7 0) v80 h79 fun h81=>
 ldn 2 (.ptr p7 0) h81 fun v82=>
 k v82 h81)
 (cnd (Bc l_1 c_1 1 42)
 (Af 0 (.ptr p2 0) fun v83=>
 ld1 v83 h22 fun v84=>
 asI .u64 v84 fun n85=>
 Af 0 (.ptr p5 0) fun v86=>
 ld1 v86 h22 fun v87=>
 asI .u64 v87 fun n88=>
 fI (wrap .u64 (n85*n88)) fun n89=>
 Af 0 (.ptr p20 0) fun v90=>
 st1 v90 (.int .u64 n89) h22 fun h91=>
 ldn 2 (.ptr p20 0) h91 fun v92=>
 stn 2 (.ptr p7 0) v92 h91 fun h93=>
 ldn 2 (.ptr p7 0) h93 fun v94=>
 k v94 h93)
 (cnd (Bc l_1 c_1 1 47)
 (J.a2 v_0 l_1 c_1 b_4 (.ptr p2 0) (.ptr p5 0) (.ptr p7 0) b14 (.ptr p20 0) l_1 c_1 (Bc l_1 c_1 1 47) h22)
 (J.a2 v_0 l_1 c_1 b_4 (.ptr p2 0) (.ptr p5 0) (.ptr p7 0) b14 (.ptr p20 0) l_1 c_1 (Bc l_1 c_1 1 37) h22)))))))
def Aeb(c:CF)(k:KV)(_J:Agc)(l_1 c_1:Nat)(v_7 v_8 v_10:AV)(b_11 b_103:Bool)(h:H):Prop:=
 cnd b_103
 (ldn 2 v_7 h fun v95=>
 Af 0 v_8 fun v96=>
 ld1 v96 h fun v97=>
 asI .u64 v97 fun n98=>
 Ll Nat.land .u64 n98 (Int.ofNat 63) fun n99=>
 c (.func 187) [(.str l_1 c_1),v95,(.int .u64 n99)] h fun v100 h101=>
 stn 2 v_10 v100 h101 fun h102=>
 ldn 2 v_10 h102 fun v103=>
 k v103 h102)
 (Af 0 v_7 fun v104=>
 ld1 v104 h fun v105=>
 asI .u64 v105 fun n106=>
 Af 0 v_8 fun v107=>
 ld1 v107 h fun v108=>
 asI .u64 v108 fun n109=>
 c (.func 188) [(.str l_1 c_1),(.int .u64 n106),(.int .u64 n109),(.bool b_11)] h fun v110 h111=>
 asB v110 fun b112=>
 c (.func 141) [(.bool b112)] h111 fun v113 h114=>
 stn 2 v_10 v113 h114 fun h115=>
 ldn 2 v_10 h115 fun v116=>
 k v116 h115)
def Aea(c:CF)(k:KV)(J:Agc)(v_0:AV)(l_1 c_1:Nat)(b_4:Bool)(v_7 v_8 v_10:AV)(b_11:Bool)(v_12:AV)(l_21 c_21:Nat)(b_78:Bool)(h:H):Prop:=
 cnd b_78
 (Af 0 v_8 fun v117=>
 ld1 v117 h fun v118=>
 asI .u64 v118 fun n119=>
 cnd (Bm n119 (Int.ofNat 0))
 (oK (Bd v_0 h) fun v120 h121=>
 Af 2 v120 fun v122=>
 ld1 v122 h121 fun v123=>
 asB v123 fun b124=>
 Ar (fun k125=>gate false b124
 (k125 b_4 h121)
 (k125 true h121)) fun b127 h126=>
 oK (Bd v_0 h126) fun v128 h129=>
 Af 2 v128 fun v130=>
 st1 v130 (.bool b127) h129 fun h131=>
 ldn 2 v_12 h131 fun v132=>
 stn 2 v_10 v132 h131 fun h133=>
 ldn 2 v_10 h133 fun v134=>
 k v134 h133)
 (Af 0 v_7 fun v135=>
 ld1 v135 h fun v136=>
 asI .u64 v136 fun n137=>
 Af 0 v_8 fun v138=>
 ld1 v138 h fun v139=>
 asI .u64 v139 fun n140=>
 c (.func 186) [(.str l_1 c_1),(.int .u64 n137),(.int .u64 n140),(.bool b_11)] h fun v141 h142=>
 asI .u64 v141 fun n143=>
 Af 0 v_12 fun v144=>
 st1 v144 (.int .u64 n143) h142 fun h145=>
 ldn 2 v_12 h145 fun v146=>
 stn 2 v_10 v146 h145 fun h147=>
 ldn 2 v_10 h147 fun v148=>
 k v148 h147))
 (cnd (Bc l_21 c_21 2 15420)
 (J.a1 l_1 c_1 v_7 v_8 v_10 b_11 (Bc l_21 c_21 2 15420) h)
 (J.a1 l_1 c_1 v_7 v_8 v_10 b_11 (Bc l_21 c_21 2 15934) h))
def Bgk:Agc:=⟨fun _ _ _ _ _ _ _=>False,fun _ _ _ _ _ _ _ _=>False,fun _ _ _ _ _ _ _ _ _ _ _ _ _=>False⟩
def Yy(c:CF)(k:KV)(m:Nat):Agc:=Nat.rec Bgk (fun _ J=>⟨Aec c k J,Aeb c k J,Aea c k J⟩) m
def f142(J:Agc):Jump:=fun L f h=>match L with
 |0=>asS (f 1) fun l_1 c_1=>asB (f 4) fun b_4=>J.a0 (f 0) l_1 c_1 (f 2) (f 3) b_4 h
 |1=>asS (f 1) fun l_1 c_1=>asB (f 11) fun b_11=>asB (f 103) fun b_103=>J.a1 l_1 c_1 (f 7) (f 8) (f 10) b_11 b_103 h
 |2=>asS (f 1) fun l_1 c_1=>asB (f 4) fun b_4=>asB (f 11) fun b_11=>asS (f 21) fun l_21 c_21=>asB (f 78) fun b_78=>J.a2 (f 0) l_1 c_1 b_4 (f 7) (f 8) (f 10) b_11 (f 12) l_21 c_21 b_78 h
 |_=>False
def Awg:Ay:=[(.root,0),((.r (.r (.r (.r (.r (.r (.r (.r (.r (.r (.r (.r (.r (.r (.r (.l (.r (.l (.r (.r (.r .root))))))))))))))))))))),1),((.r (.r (.r (.r (.r (.r (.r (.r (.r (.r (.r (.r (.r (.l (.r (.l (.r (.r (.r .root))))))))))))))))))),2)]
def d147:Code:=Option.rec .skip (fun c=>c) Tryz.f147.body
def A3n:Aj:=[]
def A1o:Ay:=[(.root,0)]
def d149:Code:=Option.rec .skip (fun c=>c) Tryz.f149.body
def A3m:Aj:=[]
def A1n:Ay:=[(.root,0)]
def d154:Code:=Option.rec .skip (fun c=>c) Tryz.f154.body
def A3l:Aj:=[]
def A1m:Ay:=[(.root,0),((.l (.r .root)),1)]
def d155:Code:=Option.rec .skip (fun c=>c) Tryz.f155.body
def A3k:Aj:=[(1,[0,1,2,3,4,5,6,7,8,9,10,11,12,13,14])]
def A1l:Ay:=[(.root,0)]
def d156:Code:=Option.rec .skip (fun c=>c) Tryz.f156.body
def A3j:Aj:=[(7,[0,1,2,3,4,5,6,7,8,9,10,11,12]),(8,[0,1,2,3,4,5,6,7,8,9,10,11]),(9,[0,1,2,3,4,5,6,7,8,9,10,11])]
def A1k:Ay:=[(.root,0),((.r (.r (.r (.r .root)))),1)]
def d157:Code:=Option.rec .skip (fun c=>c) Tryz.f157.body
def A3i:Aj:=[]
def A1j:Ay:=[(.root,0),((.r (.r .root)),1)]
def d158:Code:=Option.rec .skip (fun c=>c) Tryz.f158.body
def A3h:Aj:=[(17,[0,1,2,3,4,5,6,7,8,9,10,11,12,13,14])]
def A1i:Ay:=[(.root,0),((.l (.r (.r .root))),1),((.r (.r (.r (.r (.r (.r (.r (.l (.l (.l (.r (.r .root)))))))))))),2),((.r (.r (.r (.r (.r (.r (.l (.l (.l (.r (.r .root))))))))))),3),((.r (.r (.r (.r (.l (.l (.l (.r (.r .root))))))))),4)]
def d159:Code:=Option.rec .skip (fun c=>c) Tryz.f159.body
def A3g:Aj:=[]
def A1h:Ay:=[(.root,0)]
def d160:Code:=Option.rec .skip (fun c=>c) Tryz.f160.body
def Bbq:Aj:=[]
structure Avu where
 a0:Nat→Nat→Int→H→Prop
def Ad2(c:CF)(k:KV)(_J:Avu)(l_0 c_0:Nat)(n_1:Int)(h:H):Prop:=
 c (.func 207) [(.str l_0 c_0),(.int .u8 n_1)] h fun v1 h2=>
 asI .i64 v1 fun n3=>
 k (.int .i64 n3) h2
def z160:Avu:=⟨fun _ _ _ _=>False⟩
def Ari(c:CF)(k:KV)(m:Nat):Avu:=Nat.rec z160 (fun _ J=>⟨Ad2 c k J⟩) m
def f160(J:Avu):Jump:=fun L f h=>match L with
 |0=>asS (f 0) fun l_0 c_0=>asI .u8 (f 1) fun n_1=>J.a0 l_0 c_0 n_1 h
 |_=>False
def Baj:Ay:=[(.root,0)]
def d161:Code:=Option.rec .skip (fun c=>c) Tryz.f161.body
def Ajq:Aj:=[]
structure Tn where
 a0:Nat→Nat→H→Prop
 a1:Nat→Nat→Bool→Bool→Int→H→Prop
 a2:Nat→Nat→AV→Int→Int→H→Prop
 a3:Nat→Nat→AV→Int→Int→H→Prop
 a4:Nat→Nat→AV→Int→Int→H→Prop
 a5:Nat→Nat→Bool→Bool→H→Prop
def Ad1(_c:CF)(_k:KV)(J:Tn)(l_0 c_0:Nat)(h:H):Prop:=
 J.a1 l_0 c_0 true false (Int.ofNat 0) h
def Ad0(_c:CF)(_k:KV)(J:Tn)(l_0 c_0:Nat)(b_3 b_4:Bool)(n_5:Int)(h:H):Prop:=
 cnd (Cs n_5 (Int.ofNat l_0))
 (Df n_5 fun m1=>
 Dq l_0 c_0 m1 fun m2=>
 cnd (Er (Int.ofNat 128) (Int.ofNat m2))
 (J.a5 l_0 c_0 false b_4 h)
 (Ar (fun k3=>gate false b_4
 (Ar (fun k6=>gate true (Er (Int.ofNat 65) (Int.ofNat m2))
 (k6 (Er (Int.ofNat m2) (Int.ofNat 90)) h)
 (k6 false h)) fun b8 h7=>
 k3 b8 h7)
 (k3 true h)) fun b5 h4=>
 fI (wrap .i64 (Cl n_5 (Int.ofNat 1))) fun n9=>
 J.a1 l_0 c_0 b_3 b5 n9 h4))
 (J.a5 l_0 c_0 b_3 b_4 h)
def Adz(c:CF)(k:KV)(J:Tn)(l_0 c_0:Nat)(v_7:AV)(n_8 n_9:Int)(h:H):Prop:=
 cnd (Cs n_9 (Int.ofNat l_0))
 (Df n_9 fun m10=>
 Dq l_0 c_0 m10 fun m11=>
 Ar (fun k12=>gate true (Er (Int.ofNat 65) (Int.ofNat m11))
 (k12 (Er (Int.ofNat m11) (Int.ofNat 90)) h)
 (k12 false h)) fun b14 h13=>
 cnd b14
 (fI (wrap .u8 (Cl (Int.ofNat m11) (Int.ofNat 32))) fun n15=>
 cnd (Cs n_8 n_9)
 (Df n_9 fun m16=>
 Df n_8 fun m17=>
 Gq l_0 c_0 m17 m16 fun l18 c19=>
 c (.func 61) [v_7,(.str l18 c19)] h13 fun _ h21=>
 J.a3 l_0 c_0 v_7 n_9 n15 h21)
 (J.a3 l_0 c_0 v_7 n_9 n15 h13))
 (J.a4 l_0 c_0 v_7 n_8 n_9 h13))
 (cnd (Cs n_8 (Int.ofNat l_0))
 (Df n_8 fun m22=>
 Gq l_0 c_0 m22 l_0 fun l23 c24=>
 c (.func 61) [v_7,(.str l23 c24)] h fun _ h26=>
 c (.func 63) [v_7] h26 fun v27 h28=>
 asS v27 fun l29 c30=>
 k (.str l29 c30) h28)
 (c (.func 63) [v_7] h fun v31 h32=>
 asS v31 fun l33 c34=>
 k (.str l33 c34) h32))
def Ady(c:CF)(_k:KV)(J:Tn)(l_0 c_0:Nat)(v_7:AV)(n_9 n_10:Int)(h:H):Prop:=
 c (.func 107) [v_7,(.int .u8 n_10)] h fun _ h36=>
 fI (wrap .i64 (Cl n_9 (Int.ofNat 1))) fun n37=>
 J.a4 l_0 c_0 v_7 n37 n_9 h36
def Ys(_c:CF)(_k:KV)(J:Tn)(l_0 c_0:Nat)(v_7:AV)(n_8 n_9:Int)(h:H):Prop:=
 fI (wrap .i64 (Cl n_9 (Int.ofNat 1))) fun n38=>
 J.a2 l_0 c_0 v_7 n_8 n38 h
def Adx(c:CF)(k:KV)(J:Tn)(l_0 c_0:Nat)(b_3 b_4:Bool)(h:H):Prop:=
 cnd b_3
 (cnd (Ck b_4)
 (k (.str l_0 c_0) h)
 (Hp.Cz h Am3 fun p39 h40=>
 c (.func 208) [(.ptr p39 0),(.int .i64 (Int.ofNat l_0))] h40 fun _ h42=>
 J.a2 l_0 c_0 (.ptr p39 0) (Int.ofNat 0) (Int.ofNat 0) h42))
 (c (.func 209) [(.func (.func 210) [] []),(.str l_0 c_0)] h fun v43 h44=>
 asS v43 fun l45 c46=>
 k (.str l45 c46) h44)
def Bgi:Tn:=⟨fun _ _ _=>False,fun _ _ _ _ _ _=>False,fun _ _ _ _ _ _=>False,fun _ _ _ _ _ _=>False,fun _ _ _ _ _ _=>False,fun _ _ _ _ _=>False⟩
def Ns(c:CF)(k:KV)(m:Nat):Tn:=Nat.rec Bgi (fun _ J=>⟨Ad1 c k J,Ad0 c k J,Adz c k J,Ady c k J,Ys c k J,Adx c k J⟩) m
def f161(J:Tn):Jump:=fun L f h=>match L with
 |0=>asS (f 0) fun l_0 c_0=>J.a0 l_0 c_0 h
 |1=>asS (f 0) fun l_0 c_0=>asB (f 3) fun b_3=>asB (f 4) fun b_4=>asI .i64 (f 5) fun n_5=>J.a1 l_0 c_0 b_3 b_4 n_5 h
 |2=>asS (f 0) fun l_0 c_0=>asI .i64 (f 8) fun n_8=>asI .i64 (f 9) fun n_9=>J.a2 l_0 c_0 (f 7) n_8 n_9 h
 |3=>asS (f 0) fun l_0 c_0=>asI .i64 (f 9) fun n_9=>asI .u8 (f 10) fun n_10=>J.a3 l_0 c_0 (f 7) n_9 n_10 h
 |4=>asS (f 0) fun l_0 c_0=>asI .i64 (f 8) fun n_8=>asI .i64 (f 9) fun n_9=>J.a4 l_0 c_0 (f 7) n_8 n_9 h
 |5=>asS (f 0) fun l_0 c_0=>asB (f 3) fun b_3=>asB (f 4) fun b_4=>J.a5 l_0 c_0 b_3 b_4 h
 |_=>False
def Aje:Ay:=[(.root,0),((.l (.r (.l (.r (.r .root))))),1),((.l (.r (.l (.r (.r (.r (.r (.l (.r (.l (.r (.r (.r .root))))))))))))),2),((.r (.r (.l (.r (.r (.l (.l (.r (.l (.l (.r (.l (.r (.r (.r (.r (.l (.r (.l (.r (.r (.r .root)))))))))))))))))))))),3),((.r (.r (.l (.l (.r (.l (.r (.r (.r (.r (.l (.r (.l (.r (.r (.r .root)))))))))))))))),4),((.r (.r (.r .root))),5)]
def d162:Code:=Option.rec .skip (fun c=>c) Tryz.f162.body
def Bbp:Aj:=[(6,[0,1,2,3,4,5,6]),(7,[0,1,2,3,4,5,6,7,8]),(14,[0,1,2,3,4,5,6,7,8,9,10]),(31,[0,1,2,3,4,5,6,7,8,9,10])]
structure Avt where
 a0:Nat→Nat→Int→H→Prop
def Adw(c:CF)(k:KV)(_J:Avt)(l_0 c_0:Nat)(n_1:Int)(h:H):Prop:=
 Ar (fun k1=>gate true (Er (Int.ofNat 0) n_1)
 (k1 (Cs n_1 (Int.ofNat 128)) h)
 (k1 false h)) fun b3 h2=>
 cnd b3
 (fI (wrap .u8 n_1) fun n4=>
 c (.func 160) [(.str l_0 c_0),(.int .u8 n4)] h2 fun v5 h6=>
 asI .i64 v5 fun n7=>
 k (.int .i64 n7) h6)
 (cnd (Bm n_1 (Int.ofNat 65533))
 (oK (Oj env 9 (.str l_0 c_0) h2) fun _ _=>
 False)
 (c (.func 211) [(.int .i32 n_1)] h2 fun v10 h11=>
 asB v10 fun b12=>
 cnd (Ck b12)
 (k (.int .i64 (Int.negSucc 0)) h11)
 (oK (Fs env h11 21 9 (.int .i32 n_1)) fun v13 _=>
 asS v13 fun l15 _=>
 fI (wrap .i64 (Gl (Int.ofNat l15) (Int.ofNat 1))) fun _=>
 False)))
def z162:Avt:=⟨fun _ _ _ _=>False⟩
def Arh(c:CF)(k:KV)(m:Nat):Avt:=Nat.rec z162 (fun _ J=>⟨Adw c k J⟩) m
def f162(J:Avt):Jump:=fun L f h=>match L with
 |0=>asS (f 0) fun l_0 c_0=>asI .i32 (f 1) fun n_1=>J.a0 l_0 c_0 n_1 h
 |_=>False
def Bai:Ay:=[(.root,0),((.l (.r (.l (.l (.r (.r (.r (.l (.r .root))))))))),1),((.l (.l (.r (.r (.r (.r (.l (.r (.r (.r (.r (.r (.r (.l (.r .root))))))))))))))),2),((.l (.r (.l (.r (.l (.l (.r (.l (.l (.l (.r (.r (.r (.r (.l (.r (.r (.r (.r (.r (.r (.l (.r .root))))))))))))))))))))))),3),((.r (.l (.l (.r (.l (.l (.l (.r (.r (.r (.r (.l (.r (.r (.r (.r (.r (.r (.l (.r .root)))))))))))))))))))),4),((.lab (.l (.r (.l (.l (.l (.r (.r (.r (.r (.l (.r (.r (.r (.r (.r (.r (.l (.r .root)))))))))))))))))) 0),5),((.l (.r (.r (.r (.l (.r (.l (.r (.r (.r (.r (.r (.r (.r (.l (.r (.r (.r (.r (.r (.r (.l (.r .root))))))))))))))))))))))),6),((.l (.r (.l (.l (.r (.l (.l (.r (.l (.l (.r (.r (.r (.l (.r (.l (.r (.r (.r (.r (.r (.r (.r (.l (.r (.r (.r (.r (.r (.r (.l (.r .root)))))))))))))))))))))))))))))))),7),((.r (.r (.l (.l (.r (.r (.r (.l (.r (.l (.r (.r (.r (.r (.r (.r (.r (.l (.r (.r (.r (.r (.r (.r (.l (.r .root)))))))))))))))))))))))))),8),((.lab (.r (.l (.r (.r (.r (.r (.r (.r (.r (.l (.r (.r (.r (.r (.r (.r (.l (.r .root)))))))))))))))))) 2),9),((.l (.r (.lab (.r (.l (.r (.r (.r (.r (.r (.r (.r (.l (.r (.r (.r (.r (.r (.r (.l (.r .root)))))))))))))))))) 2))),10),((.l (.r (.l (.l (.r (.l (.l (.r (.l (.l (.r (.lab (.r (.l (.r (.r (.r (.r (.r (.r (.r (.l (.r (.r (.r (.r (.r (.r (.l (.r .root)))))))))))))))))) 2)))))))))))),11),((.r (.r (.l (.l (.r (.lab (.r (.l (.r (.r (.r (.r (.r (.r (.r (.l (.r (.r (.r (.r (.r (.r (.l (.r .root)))))))))))))))))) 2)))))),12),((.lab (.r (.r (.r (.r (.r (.r (.l (.r .root)))))))) 1),13),((.l (.r (.r (.r (.l (.r (.l (.r (.lab (.r (.r (.r (.r (.r (.r (.l (.r .root)))))))) 1))))))))),14),((.l (.r (.l (.l (.r (.l (.l (.r (.l (.l (.r (.r (.r (.l (.r (.l (.r (.lab (.r (.r (.r (.r (.r (.r (.l (.r .root)))))))) 1)))))))))))))))))),15),((.r (.r (.l (.l (.r (.r (.r (.l (.r (.l (.r (.lab (.r (.r (.r (.r (.r (.r (.l (.r .root)))))))) 1)))))))))))),16),((.lab (.r (.l (.r (.lab (.r (.r (.r (.r (.r (.r (.l (.r .root)))))))) 1)))) 2),17),((.l (.r (.lab (.r (.l (.r (.lab (.r (.r (.r (.r (.r (.r (.l (.r .root)))))))) 1)))) 2))),18),((.l (.r (.l (.l (.r (.l (.l (.r (.l (.l (.r (.lab (.r (.l (.r (.lab (.r (.r (.r (.r (.r (.r (.l (.r .root)))))))) 1)))) 2)))))))))))),19),((.r (.r (.l (.l (.r (.lab (.r (.l (.r (.lab (.r (.r (.r (.r (.r (.r (.l (.r .root)))))))) 1)))) 2)))))),20),((.r (.l (.l (.r (.r (.r (.r (.r (.r (.r (.l (.r (.r (.r (.r (.r (.r (.l (.r .root))))))))))))))))))),21),((.r (.r (.l (.r (.l (.r (.r (.r (.r (.r (.r (.r (.l (.r (.r (.r (.r (.r (.r (.l (.r .root))))))))))))))))))))),22)]
def d163:Code:=Option.rec .skip (fun c=>c) Tryz.f163.body
def Bbo:Aj:=[]
structure Avs where
 a0:Nat→Nat→Nat→Nat→H→Prop
def Adv(c:CF)(k:KV)(_J:Avs)(l_0 c_0:Nat)(l_1 c_1:Nat)(h:H):Prop:=
 c (.func 171) [(.str l_0 c_0),(.str l_1 c_1)] h fun v1 h2=>
 asB v1 fun b3=>
 cnd (Ck b3)
 (k (.tuple [(.str l_0 c_0),(.bool false)]) h2)
 (Gq l_0 c_0 l_1 l_0 fun l4 c5=>
 k (.tuple [(.str l4 c5),(.bool true)]) h2)
def Bgh:Avs:=⟨fun _ _ _ _ _=>False⟩
def Arf(c:CF)(k:KV)(m:Nat):Avs:=Nat.rec Bgh (fun _ J=>⟨Adv c k J⟩) m
def f163(J:Avs):Jump:=fun L f h=>match L with
 |0=>asS (f 0) fun l_0 c_0=>asS (f 1) fun l_1 c_1=>J.a0 l_0 c_0 l_1 c_1 h
 |_=>False
def Bah:Ay:=[(.root,0)]
def d168:Code:=Option.rec .skip (fun c=>c) Tryz.f168.body
def A3f:Aj:=[]
def A1g:Ay:=[(.root,0),((.l (.r (.l (.r .root)))),1)]
def d169:Code:=Option.rec .skip (fun c=>c) Tryz.f169.body
def A3e:Aj:=[]
structure Ak4 where
 a0:Nat→Nat→AV→H→Prop
 a1:Nat→Nat→AV→H→Prop
def Adu(_c:CF)(_k:KV)(J:Ak4)(l_0 c_0:Nat)(v_1:AV)(h:H):Prop:=
 J.a1 l_0 c_0 v_1 h
def Adt(c:CF)(k:KV)(J:Ak4)(l_0 c_0:Nat)(v_1:AV)(h:H):Prop:=
 cnd (Cs (Int.ofNat 0) (Int.ofNat l_0))
 (fI (wrap .i64 (Gl (Int.ofNat l_0) (Int.ofNat 1))) fun n1=>
 Df n1 fun m2=>
 Dq l_0 c_0 m2 fun m3=>
 c (.func 215) [v_1,(.int .u8 (Int.ofNat m3))] h fun v4 h5=>
 asB v4 fun b6=>
 cnd (Ck b6)
 (k (.str l_0 c_0) h5)
 (fI (wrap .i64 (Gl (Int.ofNat l_0) (Int.ofNat 1))) fun n7=>
 Df n7 fun m8=>
 Gq l_0 c_0 0 m8 fun l9 c10=>
 J.a1 l9 c10 v_1 h5))
 (k (.str l_0 c_0) h)
def Bgg:Ak4:=⟨fun _ _ _ _=>False,fun _ _ _ _=>False⟩
def Ag9(c:CF)(k:KV)(m:Nat):Ak4:=Nat.rec Bgg (fun _ J=>⟨Adu c k J,Adt c k J⟩) m
def f169(J:Ak4):Jump:=fun L f h=>match L with
 |0=>asS (f 0) fun l_0 c_0=>J.a0 l_0 c_0 (f 1) h
 |1=>asS (f 0) fun l_0 c_0=>J.a1 l_0 c_0 (f 1) h
 |_=>False
def A1f:Ay:=[(.root,0),((.l (.l (.r .root))),1)]
def d171:Code:=Option.rec .skip (fun c=>c) Tryz.f171.body
def Bbn:Aj:=[]
structure Avr where
 a0:Nat→Nat→Nat→Nat→H→Prop
def Ads(_c:CF)(k:KV)(_J:Avr)(l_0 c_0:Nat)(l_1 c_1:Nat)(h:H):Prop:=
 Ar (fun k1=>gate true (Er (Int.ofNat l_1) (Int.ofNat l_0))
 (Gq l_0 c_0 0 l_1 fun l4 c5=>
 k1 (Bc l4 c5 l_1 c_1) h)
 (k1 false h)) fun b3 h2=>
 k (.bool b3) h2
def z171:Avr:=⟨fun _ _ _ _ _=>False⟩
def Are(c:CF)(k:KV)(m:Nat):Avr:=Nat.rec z171 (fun _ J=>⟨Ads c k J⟩) m
def f171(J:Avr):Jump:=fun L f h=>match L with
 |0=>asS (f 0) fun l_0 c_0=>asS (f 1) fun l_1 c_1=>J.a0 l_0 c_0 l_1 c_1 h
 |_=>False
def Bag:Ay:=[(.root,0)]
def d172:Code:=Option.rec .skip (fun c=>c) Tryz.f172.body
def Bbm:Aj:=[]
structure Avq where
 a0:Nat→Nat→Nat→Nat→H→Prop
def Adr(c:CF)(k:KV)(_J:Avq)(l_0 c_0:Nat)(l_1 c_1:Nat)(h:H):Prop:=
 Ar (fun k1=>gate false (Bc l_0 c_0 0 0)
 (k1 (Bc l_1 c_1 0 0) h)
 (k1 true h)) fun b3 h2=>
 cnd b3
 (k (.str l_0 c_0) h2)
 (Ar (fun k4=>gate true (Bm (Int.ofNat l_1) (Int.ofNat 1))
 (Dq l_1 c_1 0 fun m7=>
 k4 (Cs (Int.ofNat m7) (Int.ofNat 128)) h2)
 (k4 false h2)) fun b6 h5=>
 cnd b6
 (Dq l_1 c_1 0 fun m8=>
 c (.func 218) [(.str l_0 c_0),(.int .u8 (Int.ofNat m8))] h5 fun v9 h10=>
 asS v9 fun l11 c12=>
 k (.str l11 c12) h10)
 (c (.func 168) [(.str l_1 c_1)] h5 fun v13 h14=>
 ext 0 v13 fun v15=>
 ext 1 v13 fun v16=>
 asB v16 fun b17=>
 Hp.Cz h14 Ayw fun p18 h19=>
 stn 256 (.ptr p18 0) v15 h19 fun h20=>
 cnd b17
 (c (.func 219) [(.str l_0 c_0),(.ptr p18 0)] h20 fun v21 h22=>
 asS v21 fun l23 c24=>
 k (.str l23 c24) h22)
 (c (.func 220) [(.str l_0 c_0),(.str l_1 c_1)] h20 fun v25 h26=>
 asS v25 fun l27 c28=>
 k (.str l27 c28) h26)))
def Bgf:Avq:=⟨fun _ _ _ _ _=>False⟩
def Ard(c:CF)(k:KV)(m:Nat):Avq:=Nat.rec Bgf (fun _ J=>⟨Adr c k J⟩) m
def f172(J:Avq):Jump:=fun L f h=>match L with
 |0=>asS (f 0) fun l_0 c_0=>asS (f 1) fun l_1 c_1=>J.a0 l_0 c_0 l_1 c_1 h
 |_=>False
def Baf:Ay:=[(.root,0)]
def d173:Code:=Option.rec .skip (fun c=>c) Tryz.f173.body
def Ajp:Aj:=[]
structure Tl where
 a0:Nat→Nat→Int→Int→H→Prop
 a1:Int→Bool→Nat→Nat→Int→Int→Bool→Int→AV→Int→Int→H→Prop
 a2:Int→Bool→Nat→Nat→Int→Int→Bool→Int→Int→AV→Int→Int→H→Prop
 a3:Nat→Nat→Int→Int→Bool→Nat→Nat→Int→H→Prop
 a4:Nat→Nat→Int→Int→Bool→Nat→Nat→H→Prop
 a5:Nat→Nat→Int→Int→Bool→Nat→Nat→H→Prop
def Adq(c:CF)(k:KV)(J:Tl)(l_0 c_0:Nat)(n_1 n_2:Int)(h:H):Prop:=
 cnd (Bc l_0 c_0 0 0)
 (k (.tuple [(.int .u64 (Int.ofNat 0)),(.iface 304 (.int .i64 (Int.ofNat 2)))]) h)
 (Ar (fun k1=>gate true (Er (Int.ofNat 2) n_1)
 (k1 (Er n_1 (Int.ofNat 36)) h)
 (k1 false h)) fun b3 h2=>
 cnd b3
 (J.a5 l_0 c_0 n_1 n_2 (Bm n_1 (Int.ofNat 0)) l_0 c_0 h2)
 (cnd (Bm n_1 (Int.ofNat 0))
 (Dq l_0 c_0 0 fun m4=>
 cnd (Bm (Int.ofNat m4) (Int.ofNat 48))
 (Ar (fun k5=>gate true (Er (Int.ofNat 3) (Int.ofNat l_0))
 (Dq l_0 c_0 1 fun m8=>
 c (.func 221) [(.int .u8 (Int.ofNat m8))] h2 fun v9 h10=>
 asI .u8 v9 fun n11=>
 k5 (Bm n11 (Int.ofNat 98)) h10)
 (k5 false h2)) fun b7 h6=>
 cnd b7
 (Gq l_0 c_0 2 l_0 fun l12 c13=>
 J.a5 l12 c13 (Int.ofNat 2) n_2 (Bm n_1 (Int.ofNat 0)) l_0 c_0 h6)
 (Ar (fun k14=>gate true (Er (Int.ofNat 3) (Int.ofNat l_0))
 (Dq l_0 c_0 1 fun m17=>
 c (.func 221) [(.int .u8 (Int.ofNat m17))] h6 fun v18 h19=>
 asI .u8 v18 fun n20=>
 k14 (Bm n20 (Int.ofNat 111)) h19)
 (k14 false h6)) fun b16 h15=>
 cnd b16
 (Gq l_0 c_0 2 l_0 fun l21 c22=>
 J.a5 l21 c22 (Int.ofNat 8) n_2 (Bm n_1 (Int.ofNat 0)) l_0 c_0 h15)
 (Ar (fun k23=>gate true (Er (Int.ofNat 3) (Int.ofNat l_0))
 (Dq l_0 c_0 1 fun m26=>
 c (.func 221) [(.int .u8 (Int.ofNat m26))] h15 fun v27 h28=>
 asI .u8 v27 fun n29=>
 k23 (Bm n29 (Int.ofNat 120)) h28)
 (k23 false h15)) fun b25 h24=>
 cnd b25
 (Gq l_0 c_0 2 l_0 fun l30 c31=>
 J.a5 l30 c31 (Int.ofNat 16) n_2 (Bm n_1 (Int.ofNat 0)) l_0 c_0 h24)
 (Gq l_0 c_0 1 l_0 fun l32 c33=>
 J.a5 l32 c33 (Int.ofNat 8) n_2 (Bm n_1 (Int.ofNat 0)) l_0 c_0 h24))))
 (J.a5 l_0 c_0 (Int.ofNat 10) n_2 (Bm n_1 (Int.ofNat 0)) l_0 c_0 h2))
 (k (.tuple [(.int .u64 (Int.ofNat 0)),(.iface 304 (.int .i64 (Int.ofNat 3)))]) h2)))
def Adp(c:CF)(k:KV)(J:Tl)(n_1:Int)(b_8:Bool)(l_9 c_9:Nat)(n_10 n_11:Int)(b_12:Bool)(n_13:Int)(v_99:AV)(n_100 n_101:Int)(h:H):Prop:=
 cnd (Cs n_101 n_100)
 (Df n_101 fun m34=>
 Dj 1 m34 v_99 fun v35=>
 ld1 v35 h fun v36=>
 asI .u8 v36 fun n37=>
 Ar (fun k38=>gate true (Bm n37 (Int.ofNat 95))
 (k38 b_8 h)
 (k38 false h)) fun b40 h39=>
 cnd b40
 (fI (wrap .i64 (Cl n_101 (Int.ofNat 1))) fun n41=>
 J.a1 n_1 b_8 l_9 c_9 n_10 n_11 true n_13 v_99 n_100 n41 h39)
 (Ar (fun k42=>gate true (Er (Int.ofNat 48) n37)
 (k42 (Er n37 (Int.ofNat 57)) h39)
 (k42 false h39)) fun b44 h43=>
 cnd b44
 (fI (wrap .u8 (Gl n37 (Int.ofNat 48))) fun n45=>
 J.a2 n_1 b_8 l_9 c_9 n_10 n_11 b_12 n_13 n45 v_99 n_100 n_101 h43)
 (c (.func 221) [(.int .u8 n37)] h43 fun v46 h47=>
 asI .u8 v46 fun n48=>
 Ar (fun k49=>gate true (Er (Int.ofNat 97) n48)
 (c (.func 221) [(.int .u8 n37)] h47 fun v52 h53=>
 asI .u8 v52 fun n54=>
 k49 (Er n54 (Int.ofNat 122)) h53)
 (k49 false h47)) fun b51 h50=>
 cnd b51
 (c (.func 221) [(.int .u8 n37)] h50 fun v55 h56=>
 asI .u8 v55 fun n57=>
 fI (wrap .u8 (Gl n57 (Int.ofNat 97))) fun n58=>
 fI (wrap .u8 (Cl n58 (Int.ofNat 10))) fun n59=>
 J.a2 n_1 b_8 l_9 c_9 n_10 n_11 b_12 n_13 n59 v_99 n_100 n_101 h56)
 (k (.tuple [(.int .u64 (Int.ofNat 0)),(.iface 304 (.int .i64 (Int.ofNat 2)))]) h50))))
 (Ar (fun k60=>gate true b_12
 (c (.func 222) [(.str l_9 c_9)] h fun v63 h64=>
 asB v63 fun b65=>
 k60 (Ck b65) h64)
 (k60 false h)) fun b62 h61=>
 cnd b62
 (k (.tuple [(.int .u64 (Int.ofNat 0)),(.iface 304 (.int .i64 (Int.ofNat 2)))]) h61)
 (k (.tuple [(.int .u64 n_13),.Ie]) h61))
def Ado(_c:CF)(k:KV)(J:Tl)(n_1:Int)(b_8:Bool)(l_9 c_9:Nat)(n_10 n_11:Int)(b_12:Bool)(n_13 n_16:Int)(v_99:AV)(n_100 n_101:Int)(h:H):Prop:=
 fI (wrap .u8 n_1) fun n66=>
 cnd (Er n66 n_16)
 (k (.tuple [(.int .u64 (Int.ofNat 0)),(.iface 304 (.int .i64 (Int.ofNat 2)))]) h)
 (cnd (Er n_10 n_13)
 (k (.tuple [(.int .u64 n_11),(.iface 304 (.int .i64 (Int.ofNat 1)))]) h)
 (fI (wrap .u64 n_1) fun n67=>
 fI (wrap .u64 (n_13*n67)) fun n68=>
 fI (wrap .u64 n_16) fun n69=>
 fI (wrap .u64 (Cl n68 n69)) fun n70=>
 Ar (fun k71=>gate false (Cs n70 n68)
 (k71 (Cs n_11 n70) h)
 (k71 true h)) fun b73 h72=>
 cnd b73
 (k (.tuple [(.int .u64 n_11),(.iface 304 (.int .i64 (Int.ofNat 1)))]) h72)
 (fI (wrap .i64 (Cl n_101 (Int.ofNat 1))) fun n74=>
 J.a1 n_1 b_8 l_9 c_9 n_10 n_11 b_12 n70 v_99 n_100 n74 h72)))
def Adn(_c:CF)(_k:KV)(J:Tl)(l_0 c_0:Nat)(n_1 n_2:Int)(b_8:Bool)(l_9 c_9:Nat)(n_10:Int)(h:H):Prop:=
 fI (wrap .u64 n_2) fun n75=>
 Acz .u64 (Int.ofNat 1) n75 fun n76=>
 fI (wrap .u64 (Gl n76 (Int.ofNat 1))) fun n77=>
 oK (Fs env h 9 115 (.str l_0 c_0)) fun v78 h79=>
 Hy v78 fun m80=>
 J.a1 n_1 b_8 l_9 c_9 n_10 n77 false (Int.ofNat 0) v78 (Int.ofNat m80) (Int.ofNat 0) h79
def Adm(_c:CF)(_k:KV)(J:Tl)(l_0 c_0:Nat)(n_1 n_2:Int)(b_8:Bool)(l_9 c_9:Nat)(h:H):Prop:=
 cnd (Bm n_1 (Int.ofNat 10))
 (J.a3 l_0 c_0 n_1 n_2 b_8 l_9 c_9 (Int.ofNat 1844674407370955162) h)
 (cnd (Bm n_1 (Int.ofNat 16))
 (J.a3 l_0 c_0 n_1 n_2 b_8 l_9 c_9 (Int.ofNat 1152921504606846976) h)
 (fI (wrap .u64 n_1) fun n81=>
 Rx .u64 (Int.ofNat 18446744073709551615) n81 fun n82=>
 fI (wrap .u64 (Cl n82 (Int.ofNat 1))) fun n83=>
 J.a3 l_0 c_0 n_1 n_2 b_8 l_9 c_9 n83 h))
def Adl(_c:CF)(k:KV)(J:Tl)(l_0 c_0:Nat)(n_1 n_2:Int)(b_8:Bool)(l_9 c_9:Nat)(h:H):Prop:=
 cnd (Bm n_2 (Int.ofNat 0))
 (J.a4 l_0 c_0 n_1 (Int.ofNat 64) b_8 l_9 c_9 h)
 (Ar (fun k84=>gate false (Cs n_2 (Int.ofNat 0))
 (k84 (Cs (Int.ofNat 64) n_2) h)
 (k84 true h)) fun b86 h85=>
 cnd b86
 (k (.tuple [(.int .u64 (Int.ofNat 0)),(.iface 304 (.int .i64 (Int.ofNat 4)))]) h85)
 (J.a4 l_0 c_0 n_1 n_2 b_8 l_9 c_9 h85))
def z173:Tl:=⟨fun _ _ _ _ _=>False,fun _ _ _ _ _ _ _ _ _ _ _ _=>False,fun _ _ _ _ _ _ _ _ _ _ _ _ _=>False,fun _ _ _ _ _ _ _ _ _=>False,fun _ _ _ _ _ _ _ _=>False,fun _ _ _ _ _ _ _ _=>False⟩
def Pf(c:CF)(k:KV)(m:Nat):Tl:=Nat.rec z173 (fun _ J=>⟨Adq c k J,Adp c k J,Ado c k J,Adn c k J,Adm c k J,Adl c k J⟩) m
def f173(J:Tl):Jump:=fun L f h=>match L with
 |0=>asS (f 0) fun l_0 c_0=>asI .i64 (f 1) fun n_1=>asI .i64 (f 2) fun n_2=>J.a0 l_0 c_0 n_1 n_2 h
 |1=>asI .i64 (f 1) fun n_1=>asB (f 8) fun b_8=>asS (f 9) fun l_9 c_9=>asI .u64 (f 10) fun n_10=>asI .u64 (f 11) fun n_11=>asB (f 12) fun b_12=>asI .u64 (f 13) fun n_13=>asI .i64 (f 100) fun n_100=>asI .i64 (f 101) fun n_101=>J.a1 n_1 b_8 l_9 c_9 n_10 n_11 b_12 n_13 (f 99) n_100 n_101 h
 |2=>asI .i64 (f 1) fun n_1=>asB (f 8) fun b_8=>asS (f 9) fun l_9 c_9=>asI .u64 (f 10) fun n_10=>asI .u64 (f 11) fun n_11=>asB (f 12) fun b_12=>asI .u64 (f 13) fun n_13=>asI .u8 (f 16) fun n_16=>asI .i64 (f 100) fun n_100=>asI .i64 (f 101) fun n_101=>J.a2 n_1 b_8 l_9 c_9 n_10 n_11 b_12 n_13 n_16 (f 99) n_100 n_101 h
 |3=>asS (f 0) fun l_0 c_0=>asI .i64 (f 1) fun n_1=>asI .i64 (f 2) fun n_2=>asB (f 8) fun b_8=>asS (f 9) fun l_9 c_9=>asI .u64 (f 10) fun n_10=>J.a3 l_0 c_0 n_1 n_2 b_8 l_9 c_9 n_10 h
 |4=>asS (f 0) fun l_0 c_0=>asI .i64 (f 1) fun n_1=>asI .i64 (f 2) fun n_2=>asB (f 8) fun b_8=>asS (f 9) fun l_9 c_9=>J.a4 l_0 c_0 n_1 n_2 b_8 l_9 c_9 h
 |5=>asS (f 0) fun l_0 c_0=>asI .i64 (f 1) fun n_1=>asI .i64 (f 2) fun n_2=>asB (f 8) fun b_8=>asS (f 9) fun l_9 c_9=>J.a5 l_0 c_0 n_1 n_2 b_8 l_9 c_9 h
 |_=>False
def Ajd:Ay:=[(.root,0),((.l (.r (.l (.r (.r (.r (.r (.r (.r (.r (.r (.r (.r (.r .root)))))))))))))),1),((.r (.r (.r (.l (.l (.r (.r (.l (.l (.r (.l (.r (.r (.r (.r (.r (.r (.r (.r (.r (.r (.r .root)))))))))))))))))))))),2),((.r (.r (.r (.r (.r (.r (.r (.r .root)))))))),3),((.r (.r (.r (.r (.r (.r .root)))))),4),((.r (.r (.r (.r (.r .root))))),5)]
def d182:Code:=Option.rec .skip (fun c=>c) Tryz.f182.body
def A3d:Aj:=[]
def A1e:Ay:=[(.root,0)]
def d183:Code:=Option.rec .skip (fun c=>c) Tryz.f183.body
def A3c:Aj:=[(4294967294,[2]),(4294967295,[13])]
def A1d:Ay:=[(.root,0)]
def d184:Code:=Option.rec .skip (fun c=>c) Tryz.f184.body
def A3b:Aj:=[(2,[0,1,2,3,4,5,6,7,8,9]),(3,[0,1,2,3,4,5,6,7,8,9,10,11])]
structure Ak3 where
 a0:AV→H→Prop
 a1:AV→AV→Bool→H→Prop
def Adk(c:CF)(_k:KV)(J:Ak3)(v_0:AV)(h:H):Prop:=
 Hp.Cz h Ek fun p1 h2=>
 oK (Bd v_0 h2) fun v3 h4=>
 Af 1 v3 fun v5=>
 ld1 v5 h4 fun v6=>
 asI .i64 v6 fun n7=>
 oK (Bd v_0 h4) fun v8 h9=>
 Af 0 v8 fun v10=>
 ld1 v10 h9 fun v11=>
 Hy v11 fun m12=>
 cnd (Cs n7 (Int.ofNat m12))
 (oK (Bd v_0 h9) fun v13 h14=>
 Af 0 v13 fun v15=>
 ld1 v15 h14 fun v16=>
 oK (Bd v_0 h14) fun v17 h18=>
 Af 1 v17 fun v19=>
 ld1 v19 h18 fun v20=>
 asI .i64 v20 fun n21=>
 Df n21 fun m22=>
 Dj 8 m22 v16 fun v23=>
 ldn 8 v23 h18 fun v24=>
 Hp.Cz h18 Aw6 fun p25 h26=>
 ld1 v15 h26 fun v27=>
 eqC v27 v16<|
 ld1 v19 h26 fun v28=>
 asI .i64 v28 fun n29=>
 eqC (.int .i64 n29) (.int .i64 n21)<|
 ldn 8 v23 h26 fun v30=>
 eqC v30 v24<|
 stn 8 (.ptr p25 0) v24 h26 fun h31=>
 Af 0 (.ptr p25 0) fun v32=>
 ld1 v32 h31 fun v33=>
 asI .i64 v33 fun n34=>
 cnd (Bm n34 (Int.ofNat 2))
 (Af 1 (.ptr p25 0) fun v35=>
 ld1 v35 h31 fun v36=>
 asS v36 fun l37 c38=>
 c (.func 64) [(.str l37 c38)] h31 fun v39 h40=>
 ext 0 v39 fun v41=>
 ext 1 v39 fun v42=>
 asB v42 fun b43=>
 stn 2 (.ptr p1 0) v41 h40 fun h44=>
 J.a1 v_0 (.ptr p1 0) b43 h44)
 (cnd (Bm n34 (Int.ofNat 3))
 (Af 1 (.ptr p25 0) fun v45=>
 ld1 v45 h31 fun v46=>
 asS v46 fun l47 c48=>
 c (.func 66) [(.str l47 c48)] h31 fun v49 h50=>
 ext 0 v49 fun v51=>
 ext 1 v49 fun v52=>
 asB v52 fun b53=>
 stn 2 (.ptr p1 0) v51 h50 fun h54=>
 J.a1 v_0 (.ptr p1 0) b53 h54)
 (Af 0 (.ptr p25 0) fun v55=>
 ld1 v55 h31 fun v56=>
 asI .i64 v56 fun n57=>
 J.a1 v_0 (.ptr p1 0) (Bm n57 (Int.ofNat 1)) h31)))
 (J.a1 v_0 (.ptr p1 0) false h9)
def Adj(_c:CF)(k:KV)(_J:Ak3)(v_0 v_2:AV)(b_3:Bool)(h:H):Prop:=
 oK (Bd v_0 h) fun v58 h59=>
 Af 1 v58 fun v60=>
 ld1 v60 h59 fun v61=>
 asI .i64 v61 fun n62=>
 fI (wrap .i64 (Cl n62 (Int.ofNat 1))) fun n63=>
 oK (Bd v_0 h59) fun v64 h65=>
 Af 1 v64 fun v66=>
 st1 v66 (.int .i64 n63) h65 fun h67=>
 oK (Bd v_0 h67) fun v68 h69=>
 Af 2 v68 fun v70=>
 ld1 v70 h69 fun v71=>
 asB v71 fun b72=>
 Ar (fun k73=>gate false b72
 (k73 (Ck b_3) h69)
 (k73 true h69)) fun b75 h74=>
 oK (Bd v_0 h74) fun v76 h77=>
 Af 2 v76 fun v78=>
 st1 v78 (.bool b75) h77 fun h79=>
 ldn 2 v_2 h79 fun v80=>
 stn 2 v_2 v80 h79 fun h81=>
 ldn 2 v_2 h81 fun v82=>
 k v82 h81
def Bge:Ak3:=⟨fun _ _=>False,fun _ _ _ _=>False⟩
def Aew(c:CF)(k:KV)(m:Nat):Ak3:=Nat.rec Bge (fun _ J=>⟨Adk c k J,Adj c k J⟩) m
def f184(J:Ak3):Jump:=fun L f h=>match L with
 |0=>J.a0 (f 0) h
 |1=>asB (f 3) fun b_3=>J.a1 (f 0) (f 2) b_3 h
 |_=>False
def A1c:Ay:=[(.root,0),((.r (.r (.r .root))),1)]
def d185:Code:=Option.rec .skip (fun c=>c) Tryz.f185.body
def Bbl:Aj:=[]
structure Avp where
 a0:AV→Nat→Nat→H→Prop
def Adi(c:CF)(k:KV)(_J:Avp)(v_0:AV)(l_1 c_1:Nat)(h:H):Prop:=
 c (.func 233) [v_0,(.str l_1 c_1)] h fun v1 h2=>
 asI .i64 v1 fun n3=>
 k (.bool (Er (Int.ofNat 0) n3)) h2
def Bgd:Avp:=⟨fun _ _ _ _=>False⟩
def Arc(c:CF)(k:KV)(m:Nat):Avp:=Nat.rec Bgd (fun _ J=>⟨Adi c k J⟩) m
def f185(J:Avp):Jump:=fun L f h=>match L with
 |0=>asS (f 1) fun l_1 c_1=>J.a0 (f 0) l_1 c_1 h
 |_=>False
def Bae:Ay:=[(.root,0)]
def d186:Code:=Option.rec .skip (fun c=>c) Tryz.f186.body
def Bbk:Aj:=[]
structure Avo where
 a0:Nat→Nat→Int→Int→Bool→H→Prop
def Adh(_c:CF)(k:KV)(_J:Avo)(l_0 c_0:Nat)(n_1 n_2:Int)(b_3:Bool)(h:H):Prop:=
 Ar (fun k1=>gate true b_3
 (k1 (Bc l_0 c_0 1 47) h)
 (k1 false h)) fun b3 h2=>
 cnd b3
 (Rx .u64 n_1 n_2 fun n4=>
 k (.int .u64 n4) h2)
 (cnd b_3
 (Tx n_1 n_2 fun n5=>
 k (.int .u64 n5) h2)
 (cnd (Bc l_0 c_0 1 47)
 (fI (wrap .i64 n_1) fun n6=>
 fI (wrap .i64 n_2) fun n7=>
 Rx .i64 n6 n7 fun n8=>
 fI (wrap .u64 n8) fun n9=>
 k (.int .u64 n9) h2)
 (fI (wrap .i64 n_1) fun n10=>
 fI (wrap .i64 n_2) fun n11=>
 Tx n10 n11 fun n12=>
 fI (wrap .u64 n12) fun n13=>
 k (.int .u64 n13) h2)))
def Bgc:Avo:=⟨fun _ _ _ _ _ _=>False⟩
def Arb(c:CF)(k:KV)(m:Nat):Avo:=Nat.rec Bgc (fun _ J=>⟨Adh c k J⟩) m
def f186(J:Avo):Jump:=fun L f h=>match L with
 |0=>asS (f 0) fun l_0 c_0=>asI .u64 (f 1) fun n_1=>asI .u64 (f 2) fun n_2=>asB (f 3) fun b_3=>J.a0 l_0 c_0 n_1 n_2 b_3 h
 |_=>False
def Bad:Ay:=[(.root,0)]
def d187:Code:=Option.rec .skip (fun c=>c) Tryz.f187.body
def Bbj:Aj:=[]
structure Avn where
 a0:Nat→Nat→AV→Int→H→Prop
def Adg(_c:CF)(k:KV)(_J:Avn)(l_0 c_0:Nat)(v_1:AV)(n_2:Int)(h:H):Prop:=
 asG v_1 fun g1=>
 chk (Nat.ble 1 (len g1))<|
 Hp.Cz h (rowOf 55 g1) fun p2 h3=>
 Hp.Cz h3 Ek fun p4 h5=>
 cnd (Bc l_0 c_0 2 15420)
 (Af 0 (.ptr p2 0) fun v6=>
 ld1 v6 h5 fun v7=>
 asI .u64 v7 fun n8=>
 Acz .u64 n8 n_2 fun n9=>
 Af 0 (.ptr p2 0) fun v10=>
 st1 v10 (.int .u64 n9) h5 fun h11=>
 ldn 2 (.ptr p2 0) h11 fun v12=>
 stn 2 (.ptr p4 0) v12 h11 fun h13=>
 ldn 2 (.ptr p4 0) h13 fun v14=>
 k v14 h13)
 (Af 1 (.ptr p2 0) fun v15=>
 ld1 v15 h5 fun v16=>
 asB v16 fun b17=>
 cnd b17
 (Af 0 (.ptr p2 0) fun v18=>
 ld1 v18 h5 fun v19=>
 asI .u64 v19 fun n20=>
 Agq .u64 n20 n_2 fun n21=>
 Af 0 (.ptr p2 0) fun v22=>
 st1 v22 (.int .u64 n21) h5 fun h23=>
 ldn 2 (.ptr p2 0) h23 fun v24=>
 stn 2 (.ptr p4 0) v24 h23 fun h25=>
 ldn 2 (.ptr p4 0) h25 fun v26=>
 k v26 h25)
 (Af 0 (.ptr p2 0) fun v27=>
 ld1 v27 h5 fun v28=>
 asI .u64 v28 fun n29=>
 fI (wrap .i64 n29) fun n30=>
 Agq .i64 n30 n_2 fun n31=>
 fI (wrap .u64 n31) fun n32=>
 Af 0 (.ptr p2 0) fun v33=>
 st1 v33 (.int .u64 n32) h5 fun h34=>
 ldn 2 (.ptr p2 0) h34 fun v35=>
 stn 2 (.ptr p4 0) v35 h34 fun h36=>
 ldn 2 (.ptr p4 0) h36 fun v37=>
 k v37 h36))
def Bgb:Avn:=⟨fun _ _ _ _ _=>False⟩
def Ara(c:CF)(k:KV)(m:Nat):Avn:=Nat.rec Bgb (fun _ J=>⟨Adg c k J⟩) m
def f187(J:Avn):Jump:=fun L f h=>match L with
 |0=>asS (f 0) fun l_0 c_0=>asI .u64 (f 2) fun n_2=>J.a0 l_0 c_0 (f 1) n_2 h
 |_=>False
def Bac:Ay:=[(.root,0)]
def d188:Code:=Option.rec .skip (fun c=>c) Tryz.f188.body
def A3a:Aj:=[]
structure Ak2 where
 a0:Nat→Nat→Int→Int→Bool→H→Prop
 a1:Nat→Nat→Int→Int→Bool→H→Prop
def Adf(_c:CF)(_k:KV)(J:Ak2)(l_0 c_0:Nat)(n_1 n_2:Int)(b_3:Bool)(h:H):Prop:=
 cnd (Ck b_3)
 (fI (wrap .i64 n_1) fun n1=>
 fI (wrap .i64 n_2) fun n2=>
 J.a1 l_0 c_0 n_1 n_2 (Cs n1 n2) h)
 (J.a1 l_0 c_0 n_1 n_2 (Cs n_1 n_2) h)
def Ade(_c:CF)(k:KV)(_J:Ak2)(l_0 c_0:Nat)(n_1 n_2:Int)(b_9:Bool)(h:H):Prop:=
 cnd (Bc l_0 c_0 2 15677)
 (k (.bool (Bm n_1 n_2)) h)
 (cnd (Bc l_0 c_0 2 15649)
 (k (.bool (Ck (Bm n_1 n_2))) h)
 (cnd (Bc l_0 c_0 1 60)
 (k (.bool b_9) h)
 (cnd (Bc l_0 c_0 2 15678)
 (k (.bool (Ck b_9)) h)
 (cnd (Bc l_0 c_0 1 62)
 (Ar (fun k3=>gate true (Ck b_9)
 (k3 (Ck (Bm n_1 n_2)) h)
 (k3 false h)) fun b5 h4=>
 k (.bool b5) h4)
 (Ar (fun k6=>gate false b_9
 (k6 (Bm n_1 n_2) h)
 (k6 true h)) fun b8 h7=>
 k (.bool b8) h7)))))
def Bga:Ak2:=⟨fun _ _ _ _ _ _=>False,fun _ _ _ _ _ _=>False⟩
def Ag8(c:CF)(k:KV)(m:Nat):Ak2:=Nat.rec Bga (fun _ J=>⟨Adf c k J,Ade c k J⟩) m
def f188(J:Ak2):Jump:=fun L f h=>match L with
 |0=>asS (f 0) fun l_0 c_0=>asI .u64 (f 1) fun n_1=>asI .u64 (f 2) fun n_2=>asB (f 3) fun b_3=>J.a0 l_0 c_0 n_1 n_2 b_3 h
 |1=>asS (f 0) fun l_0 c_0=>asI .u64 (f 1) fun n_1=>asI .u64 (f 2) fun n_2=>asB (f 9) fun b_9=>J.a1 l_0 c_0 n_1 n_2 b_9 h
 |_=>False
def A1b:Ay:=[(.root,0),((.r (.r (.r .root))),1)]
def d190:Code:=Option.rec .skip (fun c=>c) Tryz.f190.body
def A29:Aj:=[]
def A1a:Ay:=[(.root,0)]
def d191:Code:=Option.rec .skip (fun c=>c) Tryz.f191.body
def A28:Aj:=[(1,[0,1,2,3,4,5,6,7,8,9,10,11,12,13]),(2,[0,1,2,3,4,5,6,7,8,9,10])]
def A09:Ay:=[(.root,0)]
def d192:Code:=Option.rec .skip (fun c=>c) Tryz.f192.body
def A27:Aj:=[(4,[0,1,2,3,4,5,6,7,12,8,9,10,11,13,14,15])]
def A08:Ay:=[(.root,0),((.r (.r .root)),1)]
def d194:Code:=Option.rec .skip (fun c=>c) Tryz.f194.body
def A26:Aj:=[(1,[0,1,2,3,4,5,6,7,8,9,10,11,12,13,14,15,16,17,18,19,20,21,22,23]),(2,[0,1,2,3,4,5,8,9,6,7,10,11]),(3,[0,1,3,5,6,7,8,9,10,11,12,13,14,15,16,17,18,2,4,19,20,21,22,23,24]),(4,[0,1,2,3,4,5,6,7,8,9,10,11,12,13,14,15]),(5,[0,1,2,3,4,5,6,7,8,9]),(12,[0,1,2,3,4,5,6,7,8,9,10,11,12,13]),(14,[0,1,2,3,4,5,6,7,8,9,10,11,12,13]),(15,[0,1,2,3,4,5,6,7,8,9,10]),(4294967294,[6,9,10,11]),(4294967295,[167])]
def A07:Ay:=[(.root,0),((.r (.r (.r (.r .root)))),1)]
def d195:Code:=Option.rec .skip (fun c=>c) Tryz.f195.body
def A25:Aj:=[]
def A06:Ay:=[(.root,0)]
def d196:Code:=Option.rec .skip (fun c=>c) Tryz.f196.body
def A24:Aj:=[(4,[0,1,2,3,4,5,6,7,8,9,10,11,12,13,14]),(6,[0,1,2,3,4,5,6,7,8,9,10,11,12,13,14,15,16,17])]
def A05:Ay:=[(.root,0),((.l (.r .root)),1),((.l (.r (.l (.l (.r (.l (.l (.r .root)))))))),2)]
def d202:Code:=Option.rec .skip (fun c=>c) Tryz.f202.body
def A23:Aj:=[]
def A04:Ay:=[(.root,0)]
def d206:Code:=Option.rec .skip (fun c=>c) Tryz.f206.body
def A22:Aj:=[]
def A03:Ay:=[(.root,0),((.r (.r (.r (.r .root)))),1),((.r (.r (.r .root))),2),((.r (.r .root)),3)]
def d207:Code:=Option.rec .skip (fun c=>c) Tryz.f207.body
def Bbh:Aj:=[]
structure Avl where
 a0:Nat→Nat→Int→H→Prop
def Adb(c:CF)(k:KV)(_J:Avl)(l_0 c_0:Nat)(n_1:Int)(h:H):Prop:=
 c (.func 257) [(.str l_0 c_0),(.int .u8 n_1)] h fun v1 h2=>
 asI .i64 v1 fun n3=>
 k (.int .i64 n3) h2
def Bf8:Avl:=⟨fun _ _ _ _=>False⟩
def Aq9(c:CF)(k:KV)(m:Nat):Avl:=Nat.rec Bf8 (fun _ J=>⟨Adb c k J⟩) m
def f207(J:Avl):Jump:=fun L f h=>match L with
 |0=>asS (f 0) fun l_0 c_0=>asI .u8 (f 1) fun n_1=>J.a0 l_0 c_0 n_1 h
 |_=>False
def Baa:Ay:=[(.root,0)]
def d208:Code:=Option.rec .skip (fun c=>c) Tryz.f208.body
def A21:Aj:=[(3,[0,1,2,3,4,5,6,7,8,9,10,11,12])]
structure Ak1 where
 a0:AV→Int→H→Prop
 a1:AV→Int→H→Prop
def Ada(c:CF)(_k:KV)(J:Ak1)(v_0:AV)(n_1:Int)(h:H):Prop:=
 c (.func 110) [v_0] h fun _ h2=>
 cnd (Cs n_1 (Int.ofNat 0))
 (False)
 (J.a1 v_0 n_1 h2)
def Ac9(c:CF)(k:KV)(_J:Ak1)(v_0:AV)(n_1:Int)(h:H):Prop:=
 oK (Bd v_0 h) fun v3 h4=>
 Af 1 v3 fun v5=>
 ld1 v5 h4 fun v6=>
 oK (Cb env .cap [115] [v6] h4) fun v7 h8=>
 asI .i64 v7 fun n9=>
 oK (Bd v_0 h8) fun v10 h11=>
 Af 1 v10 fun v12=>
 ld1 v12 h11 fun v13=>
 Hy v13 fun m14=>
 fI (wrap .i64 (Gl n9 (Int.ofNat m14))) fun n15=>
 cnd (Cs n15 n_1)
 (c (.func 258) [v_0,(.int .i64 n_1)] h11 fun _ h17=>
 k (.tuple []) h17)
 (k (.tuple []) h11)
def z208:Ak1:=⟨fun _ _ _=>False,fun _ _ _=>False⟩
def Ajo(c:CF)(k:KV)(m:Nat):Ak1:=Nat.rec z208 (fun _ J=>⟨Ada c k J,Ac9 c k J⟩) m
def f208(J:Ak1):Jump:=fun L f h=>match L with
 |0=>asI .i64 (f 1) fun n_1=>J.a0 (f 0) n_1 h
 |1=>asI .i64 (f 1) fun n_1=>J.a1 (f 0) n_1 h
 |_=>False
def A02:Ay:=[(.root,0),((.r (.r .root)),1)]
def d215:Code:=Option.rec .skip (fun c=>c) Tryz.f215.body
def Bbg:Aj:=[]
structure Avk where
 a0:AV→Int→H→Prop
def Ac8(_c:CF)(k:KV)(_J:Avk)(v_0:AV)(n_1:Int)(h:H):Prop:=
 oK (Bd v_0 h) fun v1 h2=>
 oK (Ep env 264 v1 (Bt (.int .u8 n_1)) h2) fun v3 h4=>
 ld1 v3 h4 fun v5=>
 asB v5 fun b6=>
 k (.bool b6) h4
def Bf7:Avk:=⟨fun _ _ _=>False⟩
def Aq8(c:CF)(k:KV)(m:Nat):Avk:=Nat.rec Bf7 (fun _ J=>⟨Ac8 c k J⟩) m
def f215(J:Avk):Jump:=fun L f h=>match L with
 |0=>asI .u8 (f 1) fun n_1=>J.a0 (f 0) n_1 h
 |_=>False
def A99:Ay:=[(.root,0)]
def d219:Code:=Option.rec .skip (fun c=>c) Tryz.f219.body
def A20:Aj:=[]
structure Ak0 where
 a0:Nat→Nat→AV→H→Prop
 a1:Nat→Nat→AV→H→Prop
def Ac7(_c:CF)(_k:KV)(J:Ak0)(l_0 c_0:Nat)(v_1:AV)(h:H):Prop:=
 J.a1 l_0 c_0 v_1 h
def Yr(c:CF)(k:KV)(J:Ak0)(l_0 c_0:Nat)(v_1:AV)(h:H):Prop:=
 cnd (Cs (Int.ofNat 0) (Int.ofNat l_0))
 (Dq l_0 c_0 0 fun m1=>
 c (.func 215) [v_1,(.int .u8 (Int.ofNat m1))] h fun v2 h3=>
 asB v2 fun b4=>
 cnd (Ck b4)
 (k (.str l_0 c_0) h3)
 (Gq l_0 c_0 1 l_0 fun l5 c6=>
 J.a1 l5 c6 v_1 h3))
 (k (.str l_0 c_0) h)
def Bf6:Ak0:=⟨fun _ _ _ _=>False,fun _ _ _ _=>False⟩
def Ag7(c:CF)(k:KV)(m:Nat):Ak0:=Nat.rec Bf6 (fun _ J=>⟨Ac7 c k J,Yr c k J⟩) m
def f219(J:Ak0):Jump:=fun L f h=>match L with
 |0=>asS (f 0) fun l_0 c_0=>J.a0 l_0 c_0 (f 1) h
 |1=>asS (f 0) fun l_0 c_0=>J.a1 l_0 c_0 (f 1) h
 |_=>False
def A01:Ay:=[(.root,0),((.l (.l (.r .root))),1)]
def d221:Code:=Option.rec .skip (fun c=>c) Tryz.f221.body
def Bbf:Aj:=[]
structure Avj where
 a0:Int→H→Prop
def Ac6(_c:CF)(k:KV)(_J:Avj)(n_0:Int)(h:H):Prop:=
 Ll Nat.lor .u8 n_0 (Int.ofNat 32) fun n1=>
 k (.int .u8 n1) h
def Bf5:Avj:=⟨fun _ _=>False⟩
def Aq7(c:CF)(k:KV)(m:Nat):Avj:=Nat.rec Bf5 (fun _ J=>⟨Ac6 c k J⟩) m
def f221(J:Avj):Jump:=fun L f h=>match L with
 |0=>asI .u8 (f 0) fun n_0=>J.a0 n_0 h
 |_=>False
def A98:Ay:=[(.root,0)]
def d224:Code:=Option.rec .skip (fun c=>c) Tryz.f224.body
def Bbe:Aj:=[(1,[0,1,3,2,4,5,6])]
structure Avi where
 a0:Nat→Nat→Nat→Nat→H→Prop
def Ac5(c:CF)(k:KV)(_J:Avi)(l_0 c_0:Nat)(l_1 c_1:Nat)(h:H):Prop:=
 ld1 (.ptr (.r (.r .z)) 0) h fun v1=>
 c (.func 265) [(.str l_1 c_1)] h fun v2 h3=>
 asS v2 fun l4 c5=>
 ld1 (.ptr (.r (.r .z)) 0) h3 fun v6=>
 eqC v6 v1<|
 oK (Ax env (env.ty 365) [(0,(.str l_0 c_0)),(1,(.str l4 c5)),(2,v1)] h3) fun v7 h8=>
 asG v7 fun g9=>
 chk (Nat.ble 1 (len g9))<|
 Hp.Cz h8 (rowOf 365 g9) fun p10 h11=>
 k (.ptr p10 0) h11
def Bf4:Avi:=⟨fun _ _ _ _ _=>False⟩
def Aq6(c:CF)(k:KV)(m:Nat):Avi:=Nat.rec Bf4 (fun _ J=>⟨Ac5 c k J⟩) m
def f224(J:Avi):Jump:=fun L f h=>match L with
 |0=>asS (f 0) fun l_0 c_0=>asS (f 1) fun l_1 c_1=>J.a0 l_0 c_0 l_1 c_1 h
 |_=>False
def A97:Ay:=[(.root,0)]
def d233:Code:=Option.rec .skip (fun c=>c) Tryz.f233.body
def A2z:Aj:=[]
structure Akz where
 a0:AV→Nat→Nat→H→Prop
 a1:AV→Nat→Nat→Int→Int→H→Prop
def Ac4(_c:CF)(_k:KV)(J:Akz)(v_0:AV)(l_1 c_1:Nat)(h:H):Prop:=
 Hy v_0 fun m1=>
 J.a1 v_0 l_1 c_1 (Int.ofNat m1) (Int.ofNat 0) h
def Ac3(_c:CF)(k:KV)(J:Akz)(v_0:AV)(l_1 c_1:Nat)(n_7 n_8:Int)(h:H):Prop:=
 cnd (Cs n_8 n_7)
 (Df n_8 fun m2=>
 Dj 1 m2 v_0 fun v3=>
 ld1 v3 h fun v4=>
 asS v4 fun l5 c6=>
 cnd (Bc l_1 c_1 l5 c6)
 (k (.int .i64 n_8) h)
 (fI (wrap .i64 (Cl n_8 (Int.ofNat 1))) fun n7=>
 J.a1 v_0 l_1 c_1 n_7 n7 h))
 (k (.int .i64 (Int.negSucc 0)) h)
def z233:Akz:=⟨fun _ _ _ _=>False,fun _ _ _ _ _ _=>False⟩
def Ag6(c:CF)(k:KV)(m:Nat):Akz:=Nat.rec z233 (fun _ J=>⟨Ac4 c k J,Ac3 c k J⟩) m
def f233(J:Akz):Jump:=fun L f h=>match L with
 |0=>asS (f 1) fun l_1 c_1=>J.a0 (f 0) l_1 c_1 h
 |1=>asS (f 1) fun l_1 c_1=>asI .i64 (f 7) fun n_7=>asI .i64 (f 8) fun n_8=>J.a1 (f 0) l_1 c_1 n_7 n_8 h
 |_=>False
def A00:Ay:=[(.root,0),((.l (.r (.l (.r .root)))),1)]
def d234:Code:=Option.rec .skip (fun c=>c) Tryz.f234.body
def A2y:Aj:=[]
def A0z:Ay:=[(.root,0),((.l (.l (.r (.r (.r .root))))),1)]
def d235:Code:=Option.rec .skip (fun c=>c) Tryz.f235.body
def A2x:Aj:=[]
def A0y:Ay:=[(.root,0),((.r (.r .root)),1)]
def d247:Code:=Option.rec .skip (fun c=>c) Tryz.f247.body
def A2w:Aj:=[]
def A0x:Ay:=[(.root,0),((.l (.r (.l (.r (.r .root))))),1),((.l (.r (.l (.r (.r (.r (.l (.l (.r (.r (.l (.l (.r (.l (.r (.r .root)))))))))))))))),2)]
def d248:Code:=Option.rec .skip (fun c=>c) Tryz.f248.body
def A2v:Aj:=[]
def A0w:Ay:=[(.root,0),((.l (.r (.l (.r .root)))),1),((.l (.r (.l (.r (.r (.l (.l (.r (.r (.l (.l (.r (.l (.r .root)))))))))))))),2)]
def d249:Code:=Option.rec .skip (fun c=>c) Tryz.f249.body
def A2u:Aj:=[(13,[0,1,2,3,4,5,6,7,8,9,10,11,12,13])]
def A0v:Ay:=[(.root,0),((.l (.r (.l (.r (.r (.r (.r .root))))))),1)]
def d250:Code:=Option.rec .skip (fun c=>c) Tryz.f250.body
def A2t:Aj:=[]
def A0u:Ay:=[(.root,0)]
def d256:Code:=Option.rec .skip (fun c=>c) Tryz.f256.body
def A2s:Aj:=[]
def A0t:Ay:=[(.root,0)]
def d258:Code:=Option.rec .skip (fun c=>c) Tryz.f258.body
def Bbd:Aj:=[(0,[0,1,2,3,4,5,6,7,9,10,11,12,13,8,14,15])]
structure Avh where
 a0:AV→Int→H→Prop
def Ac2(c:CF)(k:KV)(_J:Avh)(v_0:AV)(n_1:Int)(h:H):Prop:=
 oK (Bd v_0 h) fun v1 h2=>
 Af 1 v1 fun v3=>
 ld1 v3 h2 fun v4=>
 oK (Cb env .cap [115] [v4] h2) fun v5 h6=>
 asI .i64 v5 fun n7=>
 fI (wrap .i64 ((Int.ofNat 2)*n7)) fun n8=>
 fI (wrap .i64 (Cl n8 n_1)) fun n9=>
 oK (Bd v_0 h6) fun v10 h11=>
 Af 1 v10 fun v12=>
 ld1 v12 h11 fun v13=>
 Hy v13 fun m14=>
 c (.func 290) [(.int .i64 n9)] h11 fun v15 h16=>
 ld1 v12 h16 fun v17=>
 eqC v17 v13<|
 oK (slice3 env h16 115 v15 none (some (Bt (.int .i64 (Int.ofNat m14)))) none) fun v18 h19=>
 oK (Bd v_0 h19) fun v20 h21=>
 Af 1 v20 fun v22=>
 ld1 v22 h21 fun v23=>
 oK (Cb env .copy [115,115] [v18,v23] h21) fun v24 h25=>
 asI .i64 v24 fun _=>
 oK (Bd v_0 h25) fun v27 h28=>
 Af 1 v27 fun v29=>
 st1 v29 v18 h28 fun h30=>
 k (.tuple []) h30
def Bf3:Avh:=⟨fun _ _ _=>False⟩
def Aq5(c:CF)(k:KV)(m:Nat):Avh:=Nat.rec Bf3 (fun _ J=>⟨Ac2 c k J⟩) m
def f258(J:Avh):Jump:=fun L f h=>match L with
 |0=>asI .i64 (f 1) fun n_1=>J.a0 (f 0) n_1 h
 |_=>False
def A96:Ay:=[(.root,0)]
def d265:Code:=Option.rec .skip (fun c=>c) Tryz.f265.body
def Bbc:Aj:=[]
structure Avg where
 a0:Nat→Nat→H→Prop
def Ac1(_c:CF)(k:KV)(_J:Avg)(l_0 c_0:Nat)(h:H):Prop:=
 cnd (Bm (Int.ofNat l_0) (Int.ofNat 0))
 (k (.str 0 0) h)
 (oK (Ao env 115 (fun e ei=>Eo (Bt (.int .i64 (Int.ofNat l_0))) (Bt (.int .i64 (Int.ofNat l_0))) h e ei)) fun v1 h2=>
 oK (Cb env .copy [115,9] [v1,(.str l_0 c_0)] h2) fun v3 h4=>
 asI .i64 v3 fun _=>
 Dj 1 0 v1 fun v6=>
 Hy v1 fun m7=>
 oK (Cb env .unsafeString [225,3] [v6,(.int .i64 (Int.ofNat m7))] h4) fun v8 h9=>
 asS v8 fun l10 c11=>
 k (.str l10 c11) h9)
def Bf2:Avg:=⟨fun _ _ _=>False⟩
def Aq4(c:CF)(k:KV)(m:Nat):Avg:=Nat.rec Bf2 (fun _ J=>⟨Ac1 c k J⟩) m
def f265(J:Avg):Jump:=fun L f h=>match L with
 |0=>asS (f 0) fun l_0 c_0=>J.a0 l_0 c_0 h
 |_=>False
def A95:Ay:=[(.root,0)]
def d276:Code:=Option.rec .skip (fun c=>c) Tryz.f276.body
def A2r:Aj:=[]
def A0s:Ay:=[(.root,0),((.l (.r (.r .root))),1)]
def d283:Code:=Option.rec .skip (fun c=>c) Tryz.f283.body
def A2q:Aj:=[(3,[0,1,2,3,4,5,6])]
def A0r:Ay:=[(.root,0)]
def d286:Code:=Option.rec .skip (fun c=>c) Tryz.f286.body
def A2p:Aj:=[(5,[0,1,2,3,4,5,6,7,8,9,10,11,12,13,14,15,16,17,18,19,20,21,22]),(6,[0,1,2,3,4,5,6,7,8,9,10,11]),(8,[0,1,2,3,4,5,6])]
def A0q:Ay:=[(.root,0),((.l (.r (.l (.r (.r (.r (.r (.r (.r (.r (.r (.r .root)))))))))))),1),((.r (.r (.l (.l (.r (.r (.l (.l (.r (.l (.r (.r (.r (.r (.r (.r (.r (.r (.r .root))))))))))))))))))),2),((.r (.r (.r (.r (.r (.r (.r (.r (.r .root))))))))),3),((.r (.r (.l (.r (.l (.r (.r (.r .root)))))))),4),((.r (.r (.r (.r (.r (.r (.r (.r .root)))))))),5)]
def d288:Code:=Option.rec .skip (fun c=>c) Tryz.f288.body
def A2o:Aj:=[]
def A0p:Ay:=[(.root,0),((.l (.r .root)),1)]
def d302:Code:=Option.rec .skip (fun c=>c) Tryz.f302.body
def A2n:Aj:=[]
def A0o:Ay:=[(.root,0)]
def d303:Code:=Option.rec .skip (fun c=>c) Tryz.f303.body
def A2m:Aj:=[]
def A0n:Ay:=[(.root,0)]
def d307:Code:=Option.rec .skip (fun c=>c) Tryz.f307.body
def A2l:Aj:=[]
def A0m:Ay:=[(.root,0)]
end Go.Den
