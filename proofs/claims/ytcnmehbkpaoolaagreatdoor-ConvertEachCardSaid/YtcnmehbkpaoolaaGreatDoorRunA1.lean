/-
 Proof.
-/
import Derived.Test.YtcnmehbkpaoolaaGreatDoorRunA
noncomputable section
namespace Go.Den
open Go.Proofs
set_option maxRecDepth 100000
def d15:Code:=Option.rec .skip (fun c=>c) Tryz.f15.body
def q15:Aw:=[]
def u15:Bu:=[(.root,0)]
def d16:Code:=Option.rec .skip (fun c=>c) Tryz.f16.body
def q16:Aw:=[(8,[0,1,2,3,4,5,6,7,8,9,10,11,12,13,14,15]),(13,[0,1,2,3,4,5,6,9,10,11,12,7,8,13,14])]
structure J16 where
 a0:AV→H→Prop
 a1:AV→AV→Int→H→Prop
 a2:AV→AV→Int→H→Prop
def Ant(_c:CF)(_k:KV)(J:J16)(v_0:AV)(h:H):Prop:=
 oK (Bp env (env.ty 98) [(1,v_0)] h) fun v1 h2=>
 asG v1 fun g3=>
 chk (Nat.ble 1 (len g3))<|
 Hp.Fx h2 (rowOf 98 g3) fun p4 h5=>
 J.a1 v_0 (.ptr p4 0) (Int.ofNat 0) h5
def Ans(c:CF)(k:KV)(J:J16)(v_0 v_4:AV)(n_5:Int)(h:H):Prop:=
 Ef v_0 fun m6=>
 cnd (Cs n_5 (Int.ofNat m6))
 (Ci n_5 fun m7=>
 Bz 8 m7 v_0 fun v8=>
 ldn 8 v8 h fun v9=>
 Hp.Fx h Bc7 fun p10 h11=>
 stn 8 (.ptr p10 0) v9 h11 fun h12=>
 Am 0 (.ptr p10 0) fun v13=>
 ld1 v13 h12 fun v14=>
 asI .i64 v14 fun n15=>
 cnd (Ba n15 (Int.ofNat 4))
 (c (.func 34) [v_4,(.int .i64 n_5)] h12 fun v16 h17=>
 asI .i64 v16 fun n18=>
 J.a1 v_0 v_4 n18 h17)
 (ldn 8 (.ptr p10 0) h12 fun v19=>
 c (.func 35) [v_4,v19] h12 fun v20 h21=>
 ext 0 v20 fun v22=>
 asI .i64 v22 fun n23=>
 ext 1 v20 fun v24=>
 asS v24 fun l25 c26=>
 Am 0 (.ptr p10 0) fun v27=>
 ld1 v27 h21 fun v28=>
 asI .i64 v28 fun n29=>
 cnd (Ba n29 (Int.ofNat 7))
 (J.a2 v_0 v_4 n_5 h21)
 (cnd (Ba n23 (Int.ofNat 0))
 (Am 3 (.ptr p10 0) fun v30=>
 ldn 3 v30 h21 fun v31=>
 c (.func 36) [v_4,v31] h21 fun _ h33=>
 J.a2 v_0 v_4 n_5 h33)
 (oK (Ck v_4 h21) fun v34 h35=>
 Am 5 v34 fun v36=>
 ld1 v36 h35 fun v37=>
 Am 3 (.ptr p10 0) fun v38=>
 ldn 3 v38 h35 fun v39=>
 oK (Bp env (env.ty 40) [(0,(.int .i64 n23)),(1,(.str l25 c26)),(2,v39),(3,(.int .i64 n_5)),(4,(.int .i64 (Int.ofNat 1)))] h35) fun v40 h41=>
 oK (Ao env 25 (fun e ei=>Ak 1 [(0,v40)] h41 e ei)) fun v42 h43=>
 ld1 v36 h43 fun v44=>
 eqC v44 v37<|
 oK (Aq env .append [25,25] [v37,v42] h43) fun v45 h46=>
 oK (Ck v_4 h46) fun v47 h48=>
 Am 5 v47 fun v49=>
 st1 v49 v45 h48 fun h50=>
 J.a2 v_0 v_4 n_5 h50))))
 (oK (Ck v_4 h) fun v51 h52=>
 Am 5 v51 fun v53=>
 ld1 v53 h52 fun v54=>
 Ef v_0 fun m55=>
 oK (Bp env (env.ty 40) [(0,(.int .i64 (Int.ofNat 8))),(3,(.int .i64 (Int.ofNat m55)))] h52) fun v56 h57=>
 oK (Ck v_4 h57) fun v58 h59=>
 Am 6 v58 fun v60=>
 ld1 v60 h59 fun v61=>
 oK (Ao env 25 (fun e ei=>Ak 1 [(0,v56)] h59 e ei)) fun v62 h63=>
 ld1 v53 h63 fun v64=>
 eqC v64 v54<|
 ld1 v60 h63 fun v65=>
 eqC v65 v61<|
 oK (Aq env .append [25,25] [v54,v62] h63) fun v66 h67=>
 ld1 v60 h67 fun v68=>
 eqC v68 v61<|
 k (.tuple [v66,v61]) h67)
def Anr(_c:CF)(_k:KV)(J:J16)(v_0 v_4:AV)(n_5:Int)(h:H):Prop:=
 fI (wrap .i64 (Bn n_5 (Int.ofNat 1))) fun n69=>
 J.a1 v_0 v_4 n69 h
def z16:J16:=⟨fun _ _=>False,fun _ _ _ _=>False,fun _ _ _ _=>False⟩
def r16(c:CF)(k:KV)(m:Nat):J16:=Nat.rec z16 (fun _ J=>⟨Ant c k J,Ans c k J,Anr c k J⟩) m
def f16(J:J16):Jump:=fun L f h=>match L with
 |0=>J.a0 (f 0) h
 |1=>asI .i64 (f 5) fun n_5=>J.a1 (f 0) (f 4) n_5 h
 |2=>asI .i64 (f 5) fun n_5=>J.a2 (f 0) (f 4) n_5 h
 |_=>False
def u16:Bu:=[(.root,0),((.l (.r (.l (.r (.r .root))))),1),((.r (.r (.r (.r (.l (.r (.l (.l (.r (.l (.r (.r .root)))))))))))),2)]
def d20:Code:=Option.rec .skip (fun c=>c) Tryz.f20.body
def q20:Aw:=[]
def u20:Bu:=[(.root,0)]
def d22:Code:=Option.rec .skip (fun c=>c) Tryz.f22.body
def q22:Aw:=[]
structure J22 where
 a0:Nat→Nat→H→Prop
 a1:AV→AV→Int→H→Prop
def Anq(c:CF)(_k:KV)(J:J22)(l_0 c_0:Nat)(h:H):Prop:=
 c (.func 46) [(.str 1 102),(.str l_0 c_0)] h fun v1 h2=>
 ext 0 v1 fun v3=>
 ext 1 v1 fun _=>
 J.a1 v3 .Ad (Int.ofNat 0) h2
def Anp(_c:CF)(k:KV)(J:J22)(v_3 v_5:AV)(n_6:Int)(h:H):Prop:=
 Ef v_3 fun m5=>
 cnd (Cs n_6 (Int.ofNat m5))
 (Ci n_6 fun m6=>
 Bz 4 m6 v_3 fun v7=>
 Am 0 v7 fun v8=>
 ld1 v8 h fun v9=>
 oK (Aq env .append [22,22] [v_5,v9] h) fun v10 h11=>
 fI (wrap .i64 (Bn n_6 (Int.ofNat 1))) fun n12=>
 J.a1 v_3 v10 n12 h11)
 (k v_5 h)
def z22:J22:=⟨fun _ _ _=>False,fun _ _ _ _=>False⟩
def r22(c:CF)(k:KV)(m:Nat):J22:=Nat.rec z22 (fun _ J=>⟨Anq c k J,Anp c k J⟩) m
def f22(J:J22):Jump:=fun L f h=>match L with
 |0=>asS (f 0) fun l_0 c_0=>J.a0 l_0 c_0 h
 |1=>asI .i64 (f 6) fun n_6=>J.a1 (f 3) (f 5) n_6 h
 |_=>False
def u22:Bu:=[(.root,0),((.l (.r (.l (.r (.r (.r .root)))))),1)]
def d34:Code:=Option.rec .skip (fun c=>c) Tryz.f34.body
def q34:Aw:=[(24,[0,1,2,3,4,5,6,7,8,9,10])]
structure J34 where
 a0:AV→Int→H→Prop
 a1:AV→Int→AV→AV→Nat→Nat→Bool→Int→Int→H→Prop
 a2:AV→Int→AV→AV→Nat→Nat→Bool→Int→Nat→Nat→H→Prop
 a3:AV→Int→AV→AV→Nat→Nat→Bool→Int→Int→H→Prop
 a4:AV→Int→AV→AV→Nat→Nat→Int→H→Prop
def Ano(_c:CF)(_k:KV)(J:J34)(v_0:AV)(n_1:Int)(h:H):Prop:=
 oK (Ck v_0 h) fun v1 h2=>
 Am 4 v1 fun v3=>
 ld1 v3 h2 fun v4=>
 Ci n_1 fun m5=>
 Bz 8 m5 v4 fun v6=>
 Am 3 v6 fun v7=>
 ldn 3 v7 h2 fun v8=>
 oK (Bp env (env.ty 40) [(0,(.int .i64 (Int.ofNat 6))),(2,v8),(3,(.int .i64 n_1))] h2) fun v9 h10=>
 Hp.Fx h10 Bc8 fun p11 h12=>
 stn 7 (.ptr p11 0) v9 h12 fun h13=>
 Hp.Fx h13 Wr fun p14 h15=>
 J.a1 v_0 n_1 (.ptr p11 0) (.ptr p14 0) 0 0 false n_1 n_1 h15
def Ann(c:CF)(_k:KV)(J:J34)(v_0:AV)(n_1:Int)(v_5 v_6:AV)(l_7 c_7:Nat)(b_8:Bool)(n_9 n_10:Int)(h:H):Prop:=
 oK (Ck v_0 h) fun v16 h17=>
 Am 4 v16 fun v18=>
 ld1 v18 h17 fun v19=>
 Ef v19 fun m20=>
 cnd (Cs n_10 (Int.ofNat m20))
 (oK (Ck v_0 h17) fun v21 h22=>
 Am 4 v21 fun v23=>
 ld1 v23 h22 fun v24=>
 Ci n_10 fun m25=>
 Bz 8 m25 v24 fun v26=>
 ldn 8 v26 h22 fun v27=>
 Hp.Fx h22 Bc7 fun p28 h29=>
 stn 8 (.ptr p28 0) v27 h29 fun h30=>
 Am 0 (.ptr p28 0) fun v31=>
 ld1 v31 h30 fun v32=>
 asI .i64 v32 fun n33=>
 cnd (Ba n33 (Int.ofNat 7))
 (J.a3 v_0 n_1 v_5 v_6 l_7 c_7 b_8 n_9 n_10 h30)
 (Am 1 (.ptr p28 0) fun v34=>
 ld1 v34 h30 fun v35=>
 asS v35 fun l36 c37=>
 c (.func 59) [(.str l36 c37)] h30 fun v38 h39=>
 ext 0 v38 fun v40=>
 asS v40 fun l41 c42=>
 ext 1 v38 fun v43=>
 asB v43 fun b44=>
 Am 0 (.ptr p28 0) fun v45=>
 ld1 v45 h39 fun v46=>
 asI .i64 v46 fun n47=>
 An (fun k48=>gate false (Da (Ba n47 (Int.ofNat 4)))
 (k48 (Da b44) h39)
 (k48 true h39)) fun b50 h49=>
 cnd b50
 (J.a4 v_0 n_1 v_5 v_6 l_7 c_7 n_9 h49)
 (Am 1 (.ptr p28 0) fun v51=>
 ld1 v51 h49 fun v52=>
 asS v52 fun l53 c54=>
 c (.func 60) [(.str l53 c54)] h49 fun v55 h56=>
 ext 0 v55 fun v57=>
 asS v57 fun l58 c59=>
 ext 1 v55 fun v60=>
 asB v60 fun _=>
 An (fun k62=>gate false (Bm l58 c59 0 0)
 (k62 (Bm l58 c59 l_7 c_7) h56)
 (k62 true h56)) fun b64 h63=>
 cnd b64
 (J.a2 v_0 n_1 v_5 v_6 l_7 c_7 b_8 n_10 l41 c42 h63)
 (cnd (Bm l_7 c_7 0 0)
 (J.a2 v_0 n_1 v_5 v_6 l58 c59 b_8 n_10 l41 c42 h63)
 (cnd (Da b_8)
 (Am 3 (.ptr p28 0) fun v65=>
 ldn 3 v65 h63 fun v66=>
 c (.func 36) [v_0,v66] h63 fun _ h68=>
 J.a2 v_0 n_1 v_5 v_6 l_7 c_7 true n_10 l41 c42 h68)
 (J.a2 v_0 n_1 v_5 v_6 l_7 c_7 b_8 n_10 l41 c42 h63))))))
 (J.a4 v_0 n_1 v_5 v_6 l_7 c_7 n_9 h17)
def Anm(c:CF)(_k:KV)(J:J34)(v_0:AV)(n_1:Int)(v_5 v_6:AV)(l_7 c_7:Nat)(b_8:Bool)(n_10:Int)(l_12 c_12:Nat)(h:H):Prop:=
 c (.func 61) [v_6,(.str l_12 c_12)] h fun _ h70=>
 Am 6 v_5 fun v71=>
 ld1 v71 h70 fun v72=>
 asI .i64 v72 fun n73=>
 fI (wrap .i64 (Bn n73 (Int.ofNat 1))) fun n74=>
 fI (wrap .i64 (Bn n_10 (Int.ofNat 1))) fun n75=>
 Am 6 v_5 fun v76=>
 st1 v76 (.int .i64 n74) h70 fun h77=>
 J.a3 v_0 n_1 v_5 v_6 l_7 c_7 b_8 n75 n_10 h77
def Anl(_c:CF)(_k:KV)(J:J34)(v_0:AV)(n_1:Int)(v_5 v_6:AV)(l_7 c_7:Nat)(b_8:Bool)(n_9 n_10:Int)(h:H):Prop:=
 fI (wrap .i64 (Bn n_10 (Int.ofNat 1))) fun n78=>
 J.a1 v_0 n_1 v_5 v_6 l_7 c_7 b_8 n_9 n78 h
def Ank(c:CF)(k:KV)(_J:J34)(v_0:AV)(n_1:Int)(v_5 v_6:AV)(l_7 c_7:Nat)(n_9:Int)(h:H):Prop:=
 Am 6 v_5 fun v79=>
 ld1 v79 h fun v80=>
 asI .i64 v80 fun n81=>
 cnd (Ba n81 (Int.ofNat 0))
 (Am 2 v_5 fun v82=>
 ldn 3 v82 h fun v83=>
 c (.func 36) [v_0,v83] h fun _ h85=>
 fI (wrap .i64 (Bn n_1 (Int.ofNat 1))) fun n86=>
 k (.int .i64 n86) h85)
 (c (.func 63) [v_6] h fun v87 h88=>
 asS v87 fun l89 c90=>
 c (.func 62) [(.str l89 c90)] h88 fun v91 h92=>
 asS v91 fun l93 c94=>
 Alw l_7 c_7 l93 c94 fun l95 c96=>
 Am 1 v_5 fun v97=>
 st1 v97 (.str l95 c96) h92 fun h98=>
 oK (Ck v_0 h98) fun v99 h100=>
 Am 5 v99 fun v101=>
 ld1 v101 h100 fun v102=>
 ldn 7 v_5 h100 fun v103=>
 oK (Ao env 25 (fun e ei=>Ak 1 [(0,v103)] h100 e ei)) fun v104 h105=>
 ld1 v101 h105 fun v106=>
 eqC v106 v102<|
 oK (Aq env .append [25,25] [v102,v104] h105) fun v107 h108=>
 oK (Ck v_0 h108) fun v109 h110=>
 Am 5 v109 fun v111=>
 st1 v111 v107 h110 fun h112=>
 k (.int .i64 n_9) h112)
def z34:J34:=⟨fun _ _ _=>False,fun _ _ _ _ _ _ _ _ _ _=>False,fun _ _ _ _ _ _ _ _ _ _ _=>False,fun _ _ _ _ _ _ _ _ _ _=>False,fun _ _ _ _ _ _ _ _=>False⟩
def r34(c:CF)(k:KV)(m:Nat):J34:=Nat.rec z34 (fun _ J=>⟨Ano c k J,Ann c k J,Anm c k J,Anl c k J,Ank c k J⟩) m
def f34(J:J34):Jump:=fun L f h=>match L with
 |0=>asI .i64 (f 1) fun n_1=>J.a0 (f 0) n_1 h
 |1=>asI .i64 (f 1) fun n_1=>asS (f 7) fun l_7 c_7=>asB (f 8) fun b_8=>asI .i64 (f 9) fun n_9=>asI .i64 (f 10) fun n_10=>J.a1 (f 0) n_1 (f 5) (f 6) l_7 c_7 b_8 n_9 n_10 h
 |2=>asI .i64 (f 1) fun n_1=>asS (f 7) fun l_7 c_7=>asB (f 8) fun b_8=>asI .i64 (f 10) fun n_10=>asS (f 12) fun l_12 c_12=>J.a2 (f 0) n_1 (f 5) (f 6) l_7 c_7 b_8 n_10 l_12 c_12 h
 |3=>asI .i64 (f 1) fun n_1=>asS (f 7) fun l_7 c_7=>asB (f 8) fun b_8=>asI .i64 (f 9) fun n_9=>asI .i64 (f 10) fun n_10=>J.a3 (f 0) n_1 (f 5) (f 6) l_7 c_7 b_8 n_9 n_10 h
 |4=>asI .i64 (f 1) fun n_1=>asS (f 7) fun l_7 c_7=>asI .i64 (f 9) fun n_9=>J.a4 (f 0) n_1 (f 5) (f 6) l_7 c_7 n_9 h
 |_=>False
def u34:Bu:=[(.root,0),((.l (.r (.l (.r (.r (.r (.r .root))))))),1),((.r (.r (.r (.r (.r (.r (.l (.l (.r (.l (.l (.r (.l (.r (.r (.r (.r .root))))))))))))))))),2),((.r (.r (.l (.l (.r (.l (.r (.r (.r (.r .root)))))))))),3),((.r (.r (.r (.r (.r .root))))),4)]
def d35:Code:=Option.rec .skip (fun c=>c) Tryz.f35.body
def q35:Aw:=[(3,[0,1,2,3,4,5]),(4,[0,1,2,3]),(5,[0,1,2,3]),(9,[0,1,2,3]),(11,[0,1,2,3]),(15,[0,1,2,3])]
structure J35 where
 a0:AV→AV→H→Prop
def Anj(c:CF)(k:KV)(_J:J35)(v_0 v_1:AV)(h:H):Prop:=
 asG v_1 fun g1=>
 chk (Nat.ble 1 (len g1))<|
 Hp.Fx h (rowOf 43 g1) fun p2 h3=>
 Am 0 (.ptr p2 0) fun v4=>
 ld1 v4 h3 fun v5=>
 asI .i64 v5 fun n6=>
 cnd (Ba n6 (Int.ofNat 1))
 (oK (Ck v_0 h3) fun v7 h8=>
 Am 0 v7 fun v9=>
 Am 1 (.ptr p2 0) fun v10=>
 ld1 v10 h8 fun v11=>
 asS v11 fun l12 c13=>
 c (.func 43) [v9,(.str l12 c13)] h8 fun v14 h15=>
 asB v14 fun b16=>
 cnd b16
 (Am 1 (.ptr p2 0) fun v17=>
 ld1 v17 h15 fun v18=>
 asS v18 fun l19 c20=>
 k (.tuple [(.int .i64 (Int.ofNat 2)),(.str l19 c20)]) h15)
 (Am 1 (.ptr p2 0) fun v21=>
 ld1 v21 h15 fun v22=>
 asS v22 fun l23 c24=>
 k (.tuple [(.int .i64 (Int.ofNat 1)),(.str l23 c24)]) h15))
 (cnd (Ba n6 (Int.ofNat 2))
 (Am 1 (.ptr p2 0) fun v25=>
 ld1 v25 h3 fun v26=>
 asS v26 fun l27 c28=>
 c (.func 64) [(.str l27 c28)] h3 fun v29 h30=>
 ext 0 v29 fun v31=>
 ext 1 v29 fun v32=>
 asB v32 fun b33=>
 Hp.Fx h30 Ah2 fun p34 h35=>
 stn 2 (.ptr p34 0) v31 h35 fun h36=>
 cnd b33
 (Am 1 (.ptr p2 0) fun v37=>
 ld1 v37 h36 fun v38=>
 asS v38 fun l39 c40=>
 k (.tuple [(.int .i64 (Int.ofNat 3)),(.str l39 c40)]) h36)
 (Am 1 (.ptr p2 0) fun v41=>
 ld1 v41 h36 fun v42=>
 asS v42 fun l43 c44=>
 c (.func 65) [(.str l43 c44)] h36 fun v45 h46=>
 asB v45 fun b47=>
 cnd b47
 (Am 1 (.ptr p2 0) fun v48=>
 ld1 v48 h46 fun v49=>
 asS v49 fun l50 c51=>
 k (.tuple [(.int .i64 (Int.ofNat 4)),(.str l50 c51)]) h46)
 (k (.tuple [(.int .i64 (Int.ofNat 0)),(.str 0 0)]) h46)))
 (cnd (Ba n6 (Int.ofNat 3))
 (Am 1 (.ptr p2 0) fun v52=>
 ld1 v52 h3 fun v53=>
 asS v53 fun l54 c55=>
 c (.func 66) [(.str l54 c55)] h3 fun v56 h57=>
 ext 0 v56 fun v58=>
 ext 1 v56 fun v59=>
 asB v59 fun b60=>
 Hp.Fx h57 Ah2 fun p61 h62=>
 stn 2 (.ptr p61 0) v58 h62 fun h63=>
 cnd b60
 (Am 1 (.ptr p2 0) fun v64=>
 ld1 v64 h63 fun v65=>
 asS v65 fun l66 c67=>
 k (.tuple [(.int .i64 (Int.ofNat 5)),(.str l66 c67)]) h63)
 (k (.tuple [(.int .i64 (Int.ofNat 0)),(.str 0 0)]) h63))
 (cnd (Ba n6 (Int.ofNat 5))
 (ldn 8 (.ptr p2 0) h3 fun v68=>
 c (.func 67) [v68] h3 fun v69 h70=>
 asS v69 fun l71 c72=>
 An (fun k73=>gate false (Da (Bm l71 c72 0 0))
 (Am 1 (.ptr p2 0) fun v76=>
 ld1 v76 h70 fun v77=>
 asS v77 fun l78 c79=>
 k73 (Bm l78 c79 0 0) h70)
 (k73 true h70)) fun b75 h74=>
 cnd b75
 (k (.tuple [(.int .i64 (Int.ofNat 7)),(.str l71 c72)]) h74)
 (k (.tuple [(.int .i64 (Int.ofNat 0)),(.str 0 0)]) h74))
 (k (.tuple [(.int .i64 (Int.ofNat 0)),(.str 0 0)]) h3))))
def z35:J35:=⟨fun _ _ _=>False⟩
def r35(c:CF)(k:KV)(m:Nat):J35:=Nat.rec z35 (fun _ J=>⟨Anj c k J⟩) m
def f35(J:J35):Jump:=fun L f h=>match L with
 |0=>J.a0 (f 0) (f 1) h
 |_=>False
def u35:Bu:=[(.root,0)]
def d36:Code:=Option.rec .skip (fun c=>c) Tryz.f36.body
def q36:Aw:=[(1,[0,1,2,3,4,5,6,7,8,9,10,11])]
structure J36 where
 a0:AV→AV→H→Prop
def Ani(_c:CF)(k:KV)(_J:J36)(v_0 v_1:AV)(h:H):Prop:=
 asG v_1 fun g1=>
 chk (Nat.ble 1 (len g1))<|
 Hp.Fx h (rowOf 38 g1) fun p2 h3=>
 oK (Ck v_0 h3) fun v4 h5=>
 Am 6 v4 fun v6=>
 ld1 v6 h5 fun v7=>
 ldn 3 (.ptr p2 0) h5 fun v8=>
 oK (Bp env (env.ty 48) [(0,(.int .i64 (Int.ofNat 19))),(1,v8)] h5) fun v9 h10=>
 oK (Ao env 26 (fun e ei=>Ak 1 [(0,v9)] h10 e ei)) fun v11 h12=>
 ld1 v6 h12 fun v13=>
 eqC v13 v7<|
 oK (Aq env .append [26,26] [v7,v11] h12) fun v14 h15=>
 oK (Ck v_0 h15) fun v16 h17=>
 Am 6 v16 fun v18=>
 st1 v18 v14 h17 fun h19=>
 k (.tuple []) h19
def z36:J36:=⟨fun _ _ _=>False⟩
def r36(c:CF)(k:KV)(m:Nat):J36:=Nat.rec z36 (fun _ J=>⟨Ani c k J⟩) m
def f36(J:J36):Jump:=fun L f h=>match L with
 |0=>J.a0 (f 0) (f 1) h
 |_=>False
def u36:Bu:=[(.root,0)]
def d43:Code:=Option.rec .skip (fun c=>c) Tryz.f43.body
def q43:Aw:=[]
structure J43 where
 a0:AV→Nat→Nat→H→Prop
def Ahm(c:CF)(k:KV)(_J:J43)(v_0:AV)(l_1 c_1:Nat)(h:H):Prop:=
 one v_0<|
 Hp.Fx h (rowOf 107 [v_0]) fun p1 h2=>
 ld1 (.ptr p1 0) h2 fun v3=>
 oK (Ck v3 h2) fun v4 h5=>
 Am 0 v4 fun v6=>
 c (.func 74) [v6,(.func (.func 75) [] [(.ptr p1 0)])] h5 fun _ h8=>
 ld1 (.ptr p1 0) h8 fun v9=>
 oK (Ck v9 h8) fun v10 h11=>
 Am 3 v10 fun v12=>
 ld1 v12 h11 fun v13=>
 oK (Hg env 94 v13 (.str l_1 c_1) false h11) fun v14 h15=>
 asI .i64 v14 fun n16=>
 k (.bool (Cs (Int.ofNat 0) n16)) h15
def z43:J43:=⟨fun _ _ _ _=>False⟩
def r43(c:CF)(k:KV)(m:Nat):J43:=Nat.rec z43 (fun _ J=>⟨Ahm c k J⟩) m
def f43(J:J43):Jump:=fun L f h=>match L with
 |0=>asS (f 1) fun l_1 c_1=>J.a0 (f 0) l_1 c_1 h
 |_=>False
def u43:Bu:=[(.root,0)]
def d46:Code:=Option.rec .skip (fun c=>c) Tryz.f46.body
def q46:Aw:=[(20,[0,1,2,3,4,5,6,7,8,9,10,11,12,13,14,15,16,17]),(27,[0,1,2,3,4,5,6,7,8,9,10,11,12,13,14]),(28,[0,1,2,3,4,5,6,8,9,7,10,11,12,13,14])]
structure J46 where
 a0:Nat→Nat→Nat→Nat→H→Prop
 a1:Nat→Nat→Nat→Nat→AV→AV→AV→AV→Bool→Int→H→Prop
 a2:Nat→Nat→Nat→Nat→AV→AV→AV→AV→Int→H→Prop
 a3:AV→AV→H→Prop
 a4:Nat→Nat→AV→AV→AV→H→Prop
 a5:Nat→Nat→Nat→Nat→AV→AV→AV→AV→Bool→Int→Int→Int→Bool→H→Prop
def Anh(c:CF)(_k:KV)(J:J46)(l_0 c_0:Nat)(l_1 c_1:Nat)(h:H):Prop:=
 c (.func 77) [(.str l_1 c_1)] h fun v1 h2=>
 Hp.Fx h2 Ah3 fun p3 h4=>
 J.a1 l_0 c_0 l_1 c_1 v1 .Ad .Ad (.ptr p3 0) false (Int.ofNat 0) h4
def Ab7(c:CF)(_k:KV)(J:J46)(l_0 c_0:Nat)(l_1 c_1:Nat)(v_6 v_7:AV)(v_8 v_9:AV)(b_10:Bool)(n_11:Int)(h:H):Prop:=
 Ef v_6 fun m5=>
 cnd (Cs n_11 (Int.ofNat m5))
 (Ci n_11 fun m6=>
 Bz 3 m6 v_6 fun v7=>
 Am 0 v7 fun v8=>
 ld1 v8 h fun v9=>
 asI .u8 v9 fun n10=>
 cnd (Ba n10 (Int.ofNat 10))
 (Ci n_11 fun m11=>
 Bz 3 m11 v_6 fun v12=>
 Am 2 v12 fun v13=>
 ld1 v13 h fun v14=>
 asI .i64 v14 fun n15=>
 Am 2 v_9 fun v16=>
 st1 v16 (.int .i64 n15) h fun h17=>
 ldn 4 v_9 h17 fun v18=>
 oK (Ao env 110 (fun e ei=>Ak 1 [(0,v18)] h17 e ei)) fun v19 h20=>
 oK (Aq env .append [110,110] [v_7,v19] h20) fun v21 h22=>
 Ci n_11 fun m23=>
 Bz 3 m23 v_6 fun v24=>
 Am 2 v24 fun v25=>
 ld1 v25 h22 fun v26=>
 asI .i64 v26 fun n27=>
 oK (Bp env (env.ty 114) [(1,(.int .i64 n27))] h22) fun v28 h29=>
 stn 4 v_9 v28 h29 fun h30=>
 fI (wrap .i64 (Bn n_11 (Int.ofNat 1))) fun n31=>
 J.a1 l_0 c_0 l_1 c_1 v_6 v21 v_8 v_9 false n31 h30)
 (Ci n_11 fun m32=>
 Bz 3 m32 v_6 fun v33=>
 Am 0 v33 fun v34=>
 ld1 v34 h fun v35=>
 asI .u8 v35 fun n36=>
 c (.func 78) [(.int .u8 n36)] h fun v37 h38=>
 asB v37 fun b39=>
 cnd b39
 (fI (wrap .i64 (Bn n_11 (Int.ofNat 1))) fun n40=>
 J.a1 l_0 c_0 l_1 c_1 v_6 v_7 v_8 v_9 true n40 h38)
 (c (.func 79) [v_6,(.int .i64 n_11)] h38 fun v41 h42=>
 ext 0 v41 fun v43=>
 asI .i64 v43 fun n44=>
 ext 1 v41 fun v45=>
 asB v45 fun b46=>
 cnd (Cs n_11 n44)
 (cnd b46
 (Ci n_11 fun m47=>
 Bz 3 m47 v_6 fun v48=>
 Am 1 v48 fun v49=>
 ld1 v49 h42 fun v50=>
 asI .i64 v50 fun n51=>
 fI (wrap .i64 (Bn n_11 (Int.ofNat 1))) fun n52=>
 Ci n52 fun m53=>
 Bz 3 m53 v_6 fun v54=>
 Am 2 v54 fun v55=>
 ld1 v55 h42 fun v56=>
 asI .i64 v56 fun n57=>
 oK (Bp env (env.ty 38) [(0,(.str l_0 c_0)),(1,(.int .i64 n51)),(2,(.int .i64 n57))] h42) fun v58 h59=>
 oK (Bp env (env.ty 48) [(0,(.int .i64 (Int.ofNat 1))),(1,v58)] h59) fun v60 h61=>
 oK (Ao env 26 (fun e ei=>Ak 1 [(0,v60)] h61 e ei)) fun v62 h63=>
 oK (Aq env .append [26,26] [v_8,v62] h63) fun v64 h65=>
 J.a4 l_1 c_1 v_7 v64 v_9 h65)
 (J.a1 l_0 c_0 l_1 c_1 v_6 v_7 v_8 v_9 true n44 h42))
 (c (.func 80) [v_6,(.int .i64 n_11)] h42 fun v66 h67=>
 ext 0 v66 fun v68=>
 asI .i64 v68 fun n69=>
 ext 1 v66 fun v70=>
 asI .i64 v70 fun n71=>
 ext 2 v66 fun v72=>
 asB v72 fun b73=>
 J.a5 l_0 c_0 l_1 c_1 v_6 v_7 v_8 v_9 b_10 n_11 n69 n71 b73 h67))))
 (Ef v_7 fun m74=>
 cnd (Cs (Int.ofNat 0) (Int.ofNat m74))
 (Ef v_7 fun m75=>
 fI (wrap .i64 (Jj (Int.ofNat m75) (Int.ofNat 1))) fun n76=>
 Ci n76 fun m77=>
 Bz 4 m77 v_7 fun v78=>
 Am 2 v78 fun v79=>
 st1 v79 (.int .i64 (Int.ofNat l_1)) h fun h80=>
 J.a3 v_7 v_8 h80)
 (J.a3 v_7 v_8 h))
def Ahl(_c:CF)(_k:KV)(J:J46)(l_0 c_0:Nat)(l_1 c_1:Nat)(v_6 v_7:AV)(v_8 v_9:AV)(n_15:Int)(h:H):Prop:=
 J.a1 l_0 c_0 l_1 c_1 v_6 v_7 v_8 v_9 false n_15 h
def Yw(_c:CF)(k:KV)(_J:J46)(v_7 v_8:AV)(h:H):Prop:=
 k (.tuple [v_7,v_8]) h
def Ang(_c:CF)(k:KV)(_J:J46)(l_1 _c_1:Nat)(v_7 v_8 v_9:AV)(h:H):Prop:=
 Am 2 v_9 fun v81=>
 st1 v81 (.int .i64 (Int.ofNat l_1)) h fun h82=>
 Am 3 v_9 fun v83=>
 st1 v83 (.bool true) h82 fun h84=>
 ldn 4 v_9 h84 fun v85=>
 oK (Ao env 110 (fun e ei=>Ak 1 [(0,v85)] h84 e ei)) fun v86 h87=>
 oK (Aq env .append [110,110] [v_7,v86] h87) fun v88 h89=>
 k (.tuple [v88,v_8]) h89
def Anf(c:CF)(_k:KV)(J:J46)(l_0 c_0:Nat)(l_1 c_1:Nat)(v_6 v_7:AV)(v_8 v_9:AV)(b_10:Bool)(n_11 n_14 n_15:Int)(b_16:Bool)(h:H):Prop:=
 Ci n_11 fun m90=>
 Bz 3 m90 v_6 fun v91=>
 Am 1 v91 fun v92=>
 ld1 v92 h fun v93=>
 asI .i64 v93 fun n94=>
 fI (wrap .i64 (Jj n_15 (Int.ofNat 1))) fun n95=>
 Ci n95 fun m96=>
 Bz 3 m96 v_6 fun v97=>
 Am 2 v97 fun v98=>
 ld1 v98 h fun v99=>
 asI .i64 v99 fun n100=>
 oK (Bp env (env.ty 38) [(0,(.str l_0 c_0)),(1,(.int .i64 n94)),(2,(.int .i64 n100))] h) fun v101 h102=>
 Hp.Fx h102 Ata fun p103 h104=>
 ld1 v92 h104 fun v105=>
 asI .i64 v105 fun n106=>
 eqC (.int .i64 n106) (.int .i64 n94)<|
 ld1 v98 h104 fun v107=>
 asI .i64 v107 fun n108=>
 eqC (.int .i64 n108) (.int .i64 n100)<|
 stn 3 (.ptr p103 0) v101 h104 fun h109=>
 Am 0 v_9 fun v110=>
 ld1 v110 h109 fun v111=>
 oK (slice3 env h109 171 v_6 (some (Bc (.int .i64 n_11))) (some (Bc (.int .i64 n_15))) none) fun v112 h113=>
 ldn 3 (.ptr p103 0) h113 fun v114=>
 c (.func 81) [v112] h113 fun v115 h116=>
 asS v115 fun l117 A8x=>
 ld1 v110 h116 fun v119=>
 eqC v119 v111<|
 ldn 3 (.ptr p103 0) h116 fun v120=>
 eqC v120 v114<|
 oK (Bp env (env.ty 43) [(0,(.int .i64 n_14)),(1,(.str l117 A8x)),(2,(.bool b_10)),(3,v114)] h116) fun v121 h122=>
 oK (Ao env 22 (fun e ei=>Ak 1 [(0,v121)] h122 e ei)) fun v123 h124=>
 ld1 v110 h124 fun v125=>
 eqC v125 v111<|
 oK (Aq env .append [22,22] [v111,v123] h124) fun v126 h127=>
 Am 0 v_9 fun v128=>
 st1 v128 v126 h127 fun h129=>
 cnd b_16
 (ldn 3 (.ptr p103 0) h129 fun v130=>
 oK (Bp env (env.ty 48) [(0,(.int .i64 (Int.ofNat 2))),(1,v130)] h129) fun v131 h132=>
 oK (Ao env 26 (fun e ei=>Ak 1 [(0,v131)] h132 e ei)) fun v133 h134=>
 oK (Aq env .append [26,26] [v_8,v133] h134) fun v135 h136=>
 J.a2 l_0 c_0 l_1 c_1 v_6 v_7 v135 v_9 n_15 h136)
 (J.a2 l_0 c_0 l_1 c_1 v_6 v_7 v_8 v_9 n_15 h129)
def z46:J46:=⟨fun _ _ _ _ _=>False,fun _ _ _ _ _ _ _ _ _ _ _=>False,fun _ _ _ _ _ _ _ _ _ _=>False,fun _ _ _=>False,fun _ _ _ _ _ _=>False,fun _ _ _ _ _ _ _ _ _ _ _ _ _ _=>False⟩
def r46(c:CF)(k:KV)(m:Nat):J46:=Nat.rec z46 (fun _ J=>⟨Anh c k J,Ab7 c k J,Ahl c k J,Yw c k J,Ang c k J,Anf c k J⟩) m
def f46(J:J46):Jump:=fun L f h=>match L with
 |0=>asS (f 0) fun l_0 c_0=>asS (f 1) fun l_1 c_1=>J.a0 l_0 c_0 l_1 c_1 h
 |1=>asS (f 0) fun l_0 c_0=>asS (f 1) fun l_1 c_1=>asB (f 10) fun b_10=>asI .i64 (f 11) fun n_11=>J.a1 l_0 c_0 l_1 c_1 (f 6) (f 7) (f 8) (f 9) b_10 n_11 h
 |2=>asS (f 0) fun l_0 c_0=>asS (f 1) fun l_1 c_1=>asI .i64 (f 15) fun n_15=>J.a2 l_0 c_0 l_1 c_1 (f 6) (f 7) (f 8) (f 9) n_15 h
 |3=>J.a3 (f 7) (f 8) h
 |4=>asS (f 1) fun l_1 c_1=>J.a4 l_1 c_1 (f 7) (f 8) (f 9) h
 |5=>asS (f 0) fun l_0 c_0=>asS (f 1) fun l_1 c_1=>asB (f 10) fun b_10=>asI .i64 (f 11) fun n_11=>asI .i64 (f 14) fun n_14=>asI .i64 (f 15) fun n_15=>asB (f 16) fun b_16=>J.a5 l_0 c_0 l_1 c_1 (f 6) (f 7) (f 8) (f 9) b_10 n_11 n_14 n_15 b_16 h
 |_=>False
def u46:Bu:=[(.root,0),((.l (.r (.l (.r (.r (.r (.r (.r (.r .root))))))))),1),((.r (.r (.r (.r (.r (.r (.r (.r (.l (.r (.l (.l (.r (.l (.r (.r (.r (.r (.r (.r .root)))))))))))))))))))),2),((.r (.r (.r (.r (.r (.r (.r (.r .root)))))))),3),((.r (.l (.r (.l (.l (.r (.l (.r (.r (.r (.l (.r (.l (.l (.r (.l (.r (.r (.r (.r (.r (.r .root)))))))))))))))))))))),4),((.r (.r (.r (.r (.r (.l (.r (.l (.l (.r (.l (.r (.r (.r (.r (.r (.r .root))))))))))))))))),5)]
def d59:Code:=Option.rec .skip (fun c=>c) Tryz.f59.body
def q59:Aw:=[(5,[0,1,2,3,4,5,6,7,8,9,10,11,12,13,14,15,16]),(9,[0,1,2,3,4,5])]
structure J59 where
 a0:Nat→Nat→H→Prop
 a1:Nat→Nat→AV→Nat→Nat→H→Prop
 a2:H→Prop
 a3:Nat→Nat→AV→Nat→Nat→Int→Int→H→Prop
def Ane(c:CF)(k:KV)(J:J59)(l_0 c_0:Nat)(h:H):Prop:=
 Hp.Fx h Wr fun p1 h2=>
 c (.func 60) [(.str l_0 c_0)] h2 fun v3 h4=>
 ext 0 v3 fun v5=>
 asS v5 fun l6 _=>
 ext 1 v3 fun v8=>
 asB v8 fun b9=>
 Ge l_0 c_0 l6 l_0 fun l10 c11=>
 An (fun k12=>gate false (Da b9)
 (k12 (Cs (Int.ofNat l10) (Int.ofNat 2)) h4)
 (k12 true h4)) fun b14 h13=>
 An (fun k15=>gate false b14
 (fI (wrap .i64 (Jj (Int.ofNat l10) (Int.ofNat 1))) fun n18=>
 Ci n18 fun m19=>
 Eb l10 c11 m19 fun m20=>
 Eb l10 c11 0 fun m21=>
 k15 (Da (Ba (Int.ofNat m20) (Int.ofNat m21))) h13)
 (k15 true h13)) fun b17 h16=>
 cnd b17
 (J.a2 h16)
 (fI (wrap .i64 (Jj (Int.ofNat l10) (Int.ofNat 1))) fun n22=>
 Ci n22 fun m23=>
 Ge l10 c11 1 m23 fun l24 c25=>
 cnd (Bm l24 c25 0 0)
 (c (.func 63) [(.ptr p1 0)] h16 fun v26 h27=>
 asS v26 fun l28 c29=>
 k (.tuple [(.str l28 c29),(.bool true)]) h27)
 (Eb l24 c25 0 fun m30=>
 Eb l10 c11 0 fun m31=>
 cnd (Ba (Int.ofNat m30) (Int.ofNat m31))
 (J.a2 h16)
 (Eb l24 c25 0 fun m32=>
 cnd (Da (Ba (Int.ofNat m32) (Int.ofNat 92)))
 (Eb l24 c25 0 fun m33=>
 c (.func 107) [(.ptr p1 0),(.int .u8 (Int.ofNat m33))] h16 fun _ h35=>
 Ge l24 c25 1 l24 fun l36 c37=>
 J.a1 l10 c11 (.ptr p1 0) l36 c37 h35)
 (Ge l24 c25 1 l24 fun l38 c39=>
 c (.func 108) [(.str l38 c39)] h16 fun v40 h41=>
 ext 0 v40 fun v42=>
 asI .u8 v42 fun n43=>
 ext 1 v40 fun v44=>
 asI .i64 v44 fun n45=>
 J.a3 l10 c11 (.ptr p1 0) l24 c25 n43 n45 h41))))
def Ahk(c:CF)(k:KV)(J:J59)(l_0 c_0:Nat)(v_4:AV)(l_5 c_5:Nat)(h:H):Prop:=
 cnd (Bm l_5 c_5 0 0)
 (c (.func 63) [v_4] h fun v46 h47=>
 asS v46 fun l48 c49=>
 k (.tuple [(.str l48 c49),(.bool true)]) h47)
 (Eb l_5 c_5 0 fun m50=>
 Eb l_0 c_0 0 fun m51=>
 cnd (Ba (Int.ofNat m50) (Int.ofNat m51))
 (J.a2 h)
 (Eb l_5 c_5 0 fun m52=>
 cnd (Da (Ba (Int.ofNat m52) (Int.ofNat 92)))
 (Eb l_5 c_5 0 fun m53=>
 c (.func 107) [v_4,(.int .u8 (Int.ofNat m53))] h fun _ h55=>
 Ge l_5 c_5 1 l_5 fun l56 c57=>
 J.a1 l_0 c_0 v_4 l56 c57 h55)
 (Ge l_5 c_5 1 l_5 fun l58 c59=>
 c (.func 108) [(.str l58 c59)] h fun v60 h61=>
 ext 0 v60 fun v62=>
 asI .u8 v62 fun n63=>
 ext 1 v60 fun v64=>
 asI .i64 v64 fun n65=>
 cnd (Cs (Int.ofNat 0) n65)
 (c (.func 107) [v_4,(.int .u8 n63)] h61 fun _ h67=>
 fI (wrap .i64 (Bn (Int.ofNat 1) n65)) fun n68=>
 Ci n68 fun m69=>
 Ge l_5 c_5 m69 l_5 fun l70 c71=>
 J.a1 l_0 c_0 v_4 l70 c71 h67)
 (k (.tuple [(.str 0 0),(.bool false)]) h61))))
def Ahj(_c:CF)(k:KV)(_J:J59)(h:H):Prop:=
 k (.tuple [(.str 0 0),(.bool false)]) h
def Anb(c:CF)(k:KV)(J:J59)(l_0 c_0:Nat)(v_4:AV)(l_5 c_5:Nat)(n_8 n_9:Int)(h:H):Prop:=
 cnd (Cs (Int.ofNat 0) n_9)
 (c (.func 107) [v_4,(.int .u8 n_8)] h fun _ h73=>
 fI (wrap .i64 (Bn (Int.ofNat 1) n_9)) fun n74=>
 Ci n74 fun m75=>
 Ge l_5 c_5 m75 l_5 fun l76 c77=>
 J.a1 l_0 c_0 v_4 l76 c77 h73)
 (k (.tuple [(.str 0 0),(.bool false)]) h)
def z59:J59:=⟨fun _ _ _=>False,fun _ _ _ _ _ _=>False,fun _=>False,fun _ _ _ _ _ _ _ _=>False⟩
def r59(c:CF)(k:KV)(m:Nat):J59:=Nat.rec z59 (fun _ J=>⟨Ane c k J,Ahk c k J,Ahj c k J,Anb c k J⟩) m
def f59(J:J59):Jump:=fun L f h=>match L with
 |0=>asS (f 0) fun l_0 c_0=>J.a0 l_0 c_0 h
 |1=>asS (f 0) fun l_0 c_0=>asS (f 5) fun l_5 c_5=>J.a1 l_0 c_0 (f 4) l_5 c_5 h
 |2=>J.a2 h
 |3=>asS (f 0) fun l_0 c_0=>asS (f 5) fun l_5 c_5=>asI .u8 (f 8) fun n_8=>asI .i64 (f 9) fun n_9=>J.a3 l_0 c_0 (f 4) l_5 c_5 n_8 n_9 h
 |_=>False
def u59:Bu:=[(.root,0),((.lab (.r .root) 1),1),((.lab (.r .root) 0),2),((.r (.l (.r (.r (.r (.r (.r (.r (.r (.l (.r .root))))))))))),3)]
def d60:Code:=Option.rec .skip (fun c=>c) Tryz.f60.body
def q60:Aw:=[]
structure J60 where
 a0:Nat→Nat→H→Prop
 a1:Nat→Nat→AV→Int→Int→H→Prop
def Ana(_c:CF)(_k:KV)(J:J60)(l_0 c_0:Nat)(h:H):Prop:=
 oK (Ao env 44 (fun e ei=>Ak 5 [(0,(.str 0 0)),(1,(.str 1 76)),(2,(.str 1 117)),(3,(.str 1 85)),(4,(.str 2 14453))] h e ei)) fun v1 h2=>
 Ef v1 fun m3=>
 J.a1 l_0 c_0 v1 (Int.ofNat m3) (Int.ofNat 0) h2
def Am9(c:CF)(k:KV)(J:J60)(l_0 c_0:Nat)(v_8:AV)(n_9 n_10:Int)(h:H):Prop:=
 cnd (Cs n_10 n_9)
 (Ci n_10 fun m4=>
 Bz 1 m4 v_8 fun v5=>
 ld1 v5 h fun v6=>
 asS v6 fun l7 c8=>
 c (.func 109) [(.str l_0 c_0),(.str l7 c8)] h fun v9 h10=>
 ext 0 v9 fun v11=>
 asS v11 fun l12 c13=>
 ext 1 v9 fun v14=>
 asB v14 fun b15=>
 An (fun k16=>gate true b15
 (k16 (Da (Bm l12 c13 0 0)) h10)
 (k16 false h10)) fun b18 h17=>
 An (fun k19=>gate true b18
 (Eb l12 c13 0 fun m22=>
 An (fun k23=>gate false (Ba (Int.ofNat m22) (Int.ofNat 34))
 (Eb l12 c13 0 fun m26=>
 k23 (Ba (Int.ofNat m26) (Int.ofNat 39)) h17)
 (k23 true h17)) fun b25 h24=>
 k19 b25 h24)
 (k19 false h17)) fun b21 h20=>
 cnd b21
 (k (.tuple [(.str l7 c8),(.bool true)]) h20)
 (fI (wrap .i64 (Bn n_10 (Int.ofNat 1))) fun n27=>
 J.a1 l_0 c_0 v_8 n_9 n27 h20))
 (k (.tuple [(.str 0 0),(.bool false)]) h)
def z60:J60:=⟨fun _ _ _=>False,fun _ _ _ _ _ _=>False⟩
def r60(c:CF)(k:KV)(m:Nat):J60:=Nat.rec z60 (fun _ J=>⟨Ana c k J,Am9 c k J⟩) m
def f60(J:J60):Jump:=fun L f h=>match L with
 |0=>asS (f 0) fun l_0 c_0=>J.a0 l_0 c_0 h
 |1=>asS (f 0) fun l_0 c_0=>asI .i64 (f 9) fun n_9=>asI .i64 (f 10) fun n_10=>J.a1 l_0 c_0 (f 8) n_9 n_10 h
 |_=>False
def u60:Bu:=[(.root,0),((.l (.r (.l (.r .root)))),1)]
def d61:Code:=Option.rec .skip (fun c=>c) Tryz.f61.body
def q61:Aw:=[]
structure J61 where
 a0:AV→Nat→Nat→H→Prop
def Ahi(c:CF)(k:KV)(_J:J61)(v_0:AV)(l_1 c_1:Nat)(h:H):Prop:=
 c (.func 110) [v_0] h fun _ h2=>
 oK (Ck v_0 h2) fun v3 h4=>
 Am 1 v3 fun v5=>
 ld1 v5 h4 fun v6=>
 oK (Aq env .append [115,9] [v6,(.str l_1 c_1)] h4) fun v7 h8=>
 oK (Ck v_0 h8) fun v9 h10=>
 Am 1 v9 fun v11=>
 st1 v11 v7 h10 fun h12=>
 k (.tuple [(.int .i64 (Int.ofNat l_1)),.He]) h12
def z61:J61:=⟨fun _ _ _ _=>False⟩
def r61(c:CF)(k:KV)(m:Nat):J61:=Nat.rec z61 (fun _ J=>⟨Ahi c k J⟩) m
def f61(J:J61):Jump:=fun L f h=>match L with
 |0=>asS (f 1) fun l_1 c_1=>J.a0 (f 0) l_1 c_1 h
 |_=>False
def u61:Bu:=[(.root,0)]
def d62:Code:=Option.rec .skip (fun c=>c) Tryz.f62.body
def q62:Aw:=[]
structure J62 where
 a0:Nat→Nat→H→Prop
def Am8(c:CF)(k:KV)(_J:J62)(l_0 c_0:Nat)(h:H):Prop:=
 c (.func 111) [(.str l_0 c_0)] h fun v1 h2=>
 asS v1 fun l3 c4=>
 Alw 1 34 l3 c4 fun l5 c6=>
 Alw l5 c6 1 34 fun l7 c8=>
 k (.str l7 c8) h2
def z62:J62:=⟨fun _ _ _=>False⟩
def r62(c:CF)(k:KV)(m:Nat):J62:=Nat.rec z62 (fun _ J=>⟨Am8 c k J⟩) m
def f62(J:J62):Jump:=fun L f h=>match L with
 |0=>asS (f 0) fun l_0 c_0=>J.a0 l_0 c_0 h
 |_=>False
def u62:Bu:=[(.root,0)]
def d63:Code:=Option.rec .skip (fun c=>c) Tryz.f63.body
def q63:Aw:=[(1,[0,1,2,3,4,5,6,7,8,9,10,11])]
structure J63 where
 a0:AV→H→Prop
def Ahh(_c:CF)(k:KV)(_J:J63)(v_0:AV)(h:H):Prop:=
 oK (Ck v_0 h) fun v1 h2=>
 Am 1 v1 fun v3=>
 ld1 v3 h2 fun v4=>
 oK (Aq env .unsafeSliceData [115] [v4] h2) fun v5 h6=>
 oK (Ck v_0 h6) fun v7 h8=>
 Am 1 v7 fun v9=>
 ld1 v9 h8 fun v10=>
 Ef v10 fun m11=>
 oK (Aq env .unsafeString [225,3] [v5,(.int .i64 (Int.ofNat m11))] h8) fun v12 h13=>
 asS v12 fun l14 c15=>
 k (.str l14 c15) h13
def z63:J63:=⟨fun _ _=>False⟩
def r63(c:CF)(k:KV)(m:Nat):J63:=Nat.rec z63 (fun _ J=>⟨Ahh c k J⟩) m
def f63(J:J63):Jump:=fun L f h=>match L with
 |0=>J.a0 (f 0) h
 |_=>False
def u63:Bu:=[(.root,0)]
def d64:Code:=Option.rec .skip (fun c=>c) Tryz.f64.body
def q64:Aw:=[(5,[0,1,2,3,4])]
structure J64 where
 a0:Nat→Nat→H→Prop
 a1:AV→Nat→Nat→Bool→Bool→Int→Nat→Nat→H→Prop
def Am7(c:CF)(_k:KV)(J:J64)(l_0 c_0:Nat)(h:H):Prop:=
 Hp.Fx h Ah2 fun p1 h2=>
 c (.func 112) [(.str l_0 c_0),(.str 4 1282168181)] h2 fun v3 h4=>
 asS v3 fun l5 c6=>
 Ge l_0 c_0 l5 l_0 fun l7 c8=>
 c (.func 113) [(.str l7 c8)] h4 fun v9 h10=>
 ext 0 v9 fun v11=>
 asB v11 fun b12=>
 ext 1 v9 fun v13=>
 asB v13 fun b14=>
 c (.func 114) [(.str l5 c6)] h10 fun v15 h16=>
 asB v15 fun b17=>
 cnd b17
 (Ge l5 c6 2 l5 fun l18 c19=>
 J.a1 (.ptr p1 0) l18 c19 b12 b14 (Int.ofNat 16) 22 26291342665239622251265189840170011249128153612955952 h16)
 (c (.func 115) [(.str l5 c6),(.str 1 48)] h16 fun v20 h21=>
 asB v20 fun b22=>
 cnd b22
 (J.a1 (.ptr p1 0) l5 c6 b12 b14 (Int.ofNat 8) 8 3978425819141910832 h21)
 (J.a1 (.ptr p1 0) l5 c6 b12 b14 (Int.ofNat 10) 10 270211885617516653982000 h21))
def Am6(c:CF)(k:KV)(_J:J64)(v_2:AV)(l_4 c_4:Nat)(b_5 b_6:Bool)(n_7:Int)(l_8 c_8:Nat)(h:H):Prop:=
 An (fun k23=>gate false (Da b_6)
 (k23 (Bm l_4 c_4 0 0) h)
 (k23 true h)) fun b25 h24=>
 An (fun k26=>gate false b25
 (c (.func 116) [(.str l_4 c_4),(.str l_8 c_8)] h24 fun v29 h30=>
 asI .i64 v29 fun n31=>
 k26 (Da (Ba n31 (Int.ofNat l_4))) h30)
 (k26 true h24)) fun b28 h27=>
 cnd b28
 (oK (Bp env (env.ty 55) [] h27) fun v32 h33=>
 stn 2 v_2 v32 h33 fun h34=>
 ldn 2 v_2 h34 fun v35=>
 k (.tuple [v35,(.bool false)]) h34)
 (c (.func 117) [(.str l_4 c_4),(.int .i64 n_7),(.int .i64 (Int.ofNat 64))] h27 fun v36 h37=>
 ext 0 v36 fun v38=>
 asI .u64 v38 fun n39=>
 ext 1 v36 fun v40=>
 oV (Kz env .neq 151 v40 .He) fun v41=>
 asB v41 fun b42=>
 cnd b42
 (oK (Bp env (env.ty 55) [] h37) fun v43 h44=>
 stn 2 v_2 v43 h44 fun h45=>
 ldn 2 v_2 h45 fun v46=>
 k (.tuple [v46,(.bool false)]) h45)
 (An (fun k47=>gate false b_5
 (k47 (Cs (Int.ofNat 9223372036854775807) n39) h37)
 (k47 true h37)) fun b49 h48=>
 oK (Bp env (env.ty 55) [(0,(.int .u64 n39)),(1,(.bool b49))] h48) fun v50 h51=>
 stn 2 v_2 v50 h51 fun h52=>
 ldn 2 v_2 h52 fun v53=>
 k (.tuple [v53,(.bool true)]) h52))
def z64:J64:=⟨fun _ _ _=>False,fun _ _ _ _ _ _ _ _ _=>False⟩
def r64(c:CF)(k:KV)(m:Nat):J64:=Nat.rec z64 (fun _ J=>⟨Am7 c k J,Am6 c k J⟩) m
def f64(J:J64):Jump:=fun L f h=>match L with
 |0=>asS (f 0) fun l_0 c_0=>J.a0 l_0 c_0 h
 |1=>asS (f 4) fun l_4 c_4=>asB (f 5) fun b_5=>asB (f 6) fun b_6=>asI .i64 (f 7) fun n_7=>asS (f 8) fun l_8 c_8=>J.a1 (f 2) l_4 c_4 b_5 b_6 n_7 l_8 c_8 h
 |_=>False
def u64:Bu:=[(.root,0),((.r (.r (.r (.r (.r .root))))),1)]
def d65:Code:=Option.rec .skip (fun c=>c) Tryz.f65.body
def q65:Aw:=[(3,[0,1,2,3,4]),(9,[0,1,2,3,4,5,6,7,8])]
structure J65 where
 a0:Nat→Nat→H→Prop
 a1:Nat→Nat→Nat→Nat→Nat→Nat→Int→Bool→H→Prop
 a2:Nat→Nat→Nat→Nat→Nat→Nat→H→Prop
def Am5(c:CF)(_k:KV)(J:J65)(l_0 c_0:Nat)(h:H):Prop:=
 c (.func 114) [(.str l_0 c_0)] h fun v1 h2=>
 asB v1 fun b3=>
 cnd b3
 (Ge l_0 c_0 2 l_0 fun l4 c5=>
 J.a2 22 26291342665239622251265189840170011249128153612955952 2 20592 l4 c5 h2)
 (J.a2 10 270211885617516653982000 2 17765 l_0 c_0 h2)
def Am4(c:CF)(k:KV)(_J:J65)(l_3 c_3:Nat)(l_4 c_4:Nat)(l_5 c_5:Nat)(n_6:Int)(b_7:Bool)(h:H):Prop:=
 c (.func 118) [(.str l_5 c_5),(.str l_4 c_4)] h fun v6 h7=>
 ext 0 v6 fun v8=>
 asS v8 fun l9 c10=>
 ext 1 v6 fun v11=>
 asB v11 fun b12=>
 An (fun k13=>gate false (Ba n_6 (Int.ofNat 0))
 (An (fun k16=>gate true (Da b12)
 (An (fun k19=>gate false (Da b_7)
 (k19 (Bm l_3 c_3 22 26291342665239622251265189840170011249128153612955952) h7)
 (k19 true h7)) fun b21 h20=>
 k16 b21 h20)
 (k16 false h7)) fun b18 h17=>
 k13 b18 h17)
 (k13 true h7)) fun b15 h14=>
 cnd b15
 (k (.bool false) h14)
 (An (fun k22=>gate false (Bm l9 c10 0 0)
 (k22 (Bm l9 c10 1 102) h14)
 (k22 true h14)) fun b24 h23=>
 An (fun k25=>gate false b24
 (k25 (Bm l9 c10 1 70) h23)
 (k25 true h23)) fun b27 h26=>
 An (fun k28=>gate false b27
 (k28 (Bm l9 c10 1 108) h26)
 (k28 true h26)) fun b30 h29=>
 An (fun k31=>gate false b30
 (k31 (Bm l9 c10 1 76) h29)
 (k31 true h29)) fun b33 h32=>
 k (.bool b33) h32)
def Am3(c:CF)(_k:KV)(J:J65)(l_3 c_3:Nat)(l_4 c_4:Nat)(l_5 c_5:Nat)(h:H):Prop:=
 c (.func 116) [(.str l_5 c_5),(.str l_3 c_3)] h fun v34 h35=>
 asI .i64 v34 fun n36=>
 Ci n36 fun m37=>
 Ge l_5 c_5 m37 l_5 fun l38 c39=>
 c (.func 115) [(.str l38 c39),(.str 1 46)] h35 fun v40 h41=>
 asB v40 fun b42=>
 cnd b42
 (Ge l38 c39 1 l38 fun l43 c44=>
 c (.func 116) [(.str l43 c44),(.str l_3 c_3)] h41 fun v45 h46=>
 asI .i64 v45 fun n47=>
 fI (wrap .i64 (Bn n36 n47)) fun n48=>
 fI (wrap .i64 (Bn (Int.ofNat 1) n47)) fun n49=>
 Ci n49 fun m50=>
 Ge l38 c39 m50 l38 fun l51 c52=>
 J.a1 l_3 c_3 l_4 c_4 l51 c52 n48 b42 h46)
 (J.a1 l_3 c_3 l_4 c_4 l38 c39 n36 b42 h41)
def z65:J65:=⟨fun _ _ _=>False,fun _ _ _ _ _ _ _ _ _=>False,fun _ _ _ _ _ _ _=>False⟩
def r65(c:CF)(k:KV)(m:Nat):J65:=Nat.rec z65 (fun _ J=>⟨Am5 c k J,Am4 c k J,Am3 c k J⟩) m
def f65(J:J65):Jump:=fun L f h=>match L with
 |0=>asS (f 0) fun l_0 c_0=>J.a0 l_0 c_0 h
 |1=>asS (f 3) fun l_3 c_3=>asS (f 4) fun l_4 c_4=>asS (f 5) fun l_5 c_5=>asI .i64 (f 6) fun n_6=>asB (f 7) fun b_7=>J.a1 l_3 c_3 l_4 c_4 l_5 c_5 n_6 b_7 h
 |2=>asS (f 3) fun l_3 c_3=>asS (f 4) fun l_4 c_4=>asS (f 5) fun l_5 c_5=>J.a2 l_3 c_3 l_4 c_4 l_5 c_5 h
 |_=>False
def u65:Bu:=[(.root,0),((.r (.r (.r (.r (.r (.r (.r .root))))))),1),((.r (.r (.r .root))),2)]
def d66:Code:=Option.rec .skip (fun c=>c) Tryz.f66.body
def q66:Aw:=[]
structure J66 where
 a0:Nat→Nat→H→Prop
 a1:AV→Nat→Nat→Nat→Nat→Int→Int→Int→H→Prop
 a2:AV→Nat→Nat→Int→H→Prop
def Am2(c:CF)(k:KV)(J:J66)(l_0 c_0:Nat)(h:H):Prop:=
 Hp.Fx h Ah2 fun p1 h2=>
 c (.func 59) [(.str l_0 c_0)] h2 fun v3 h4=>
 ext 0 v3 fun v5=>
 asS v5 fun l6 c7=>
 ext 1 v3 fun v8=>
 asB v8 fun b9=>
 c (.func 60) [(.str l_0 c_0)] h4 fun v10 h11=>
 ext 0 v10 fun v12=>
 asS v12 fun l13 c14=>
 ext 1 v10 fun v15=>
 asB v15 fun _=>
 An (fun k17=>gate false (Da b9)
 (k17 (Bm l13 c14 2 14453) h11)
 (k17 true h11)) fun b19 h18=>
 An (fun k20=>gate false b19
 (Eb l_0 c_0 l13 fun m23=>
 k20 (Da (Ba (Int.ofNat m23) (Int.ofNat 39))) h18)
 (k20 true h18)) fun b22 h21=>
 An (fun k24=>gate false b22
 (k24 (Bm l6 c7 0 0) h21)
 (k24 true h21)) fun b26 h25=>
 An (fun k27=>gate false b26
 (k27 (Cs (Int.ofNat 8) (Int.ofNat l6)) h25)
 (k27 true h25)) fun b29 h28=>
 cnd b29
 (oK (Bp env (env.ty 55) [] h28) fun v30 h31=>
 stn 2 (.ptr p1 0) v30 h31 fun h32=>
 ldn 2 (.ptr p1 0) h32 fun v33=>
 k (.tuple [v33,(.bool false)]) h32)
 (Eb l6 c7 0 fun m34=>
 fI (wrap .i8 (Int.ofNat m34)) fun n35=>
 fI (wrap .i64 n35) fun n36=>
 cnd (Cs (Int.ofNat 1) (Int.ofNat l6))
 (J.a1 (.ptr p1 0) l6 c7 l13 c14 (Int.ofNat 0) (Int.ofNat l6) (Int.ofNat 0) h28)
 (J.a2 (.ptr p1 0) l13 c14 n36 h28))
def Am1(_c:CF)(_k:KV)(J:J66)(v_2:AV)(l_4 c_4:Nat)(l_6 c_6:Nat)(n_9 n_52 n_53:Int)(h:H):Prop:=
 cnd (Cs n_53 n_52)
 (Apm .u32 n_9 (Int.ofNat 8) fun n37=>
 Ci n_53 fun m38=>
 Eb l_4 c_4 m38 fun m39=>
 fI (wrap .u32 (Int.ofNat m39)) fun n40=>
 Aby Nat.lor .u32 n37 n40 fun n41=>
 fI (wrap .i64 (Bn n_53 (Int.ofNat 1))) fun n42=>
 J.a1 v_2 l_4 c_4 l_6 c_6 n41 n_52 n42 h)
 (fI (wrap .i32 n_9) fun n43=>
 fI (wrap .i64 n43) fun n44=>
 J.a2 v_2 l_6 c_6 n44 h)
def Am0(_c:CF)(k:KV)(_J:J66)(v_2:AV)(l_6 c_6:Nat)(n_8:Int)(h:H):Prop:=
 fI (wrap .u64 n_8) fun n45=>
 An (fun k46=>gate false (Bm l_6 c_6 1 117)
 (k46 (Bm l_6 c_6 1 85) h)
 (k46 true h)) fun b48 h47=>
 oK (Bp env (env.ty 55) [(0,(.int .u64 n45)),(1,(.bool b48))] h47) fun v49 h50=>
 stn 2 v_2 v49 h50 fun h51=>
 ldn 2 v_2 h51 fun v52=>
 k (.tuple [v52,(.bool true)]) h51
def z66:J66:=⟨fun _ _ _=>False,fun _ _ _ _ _ _ _ _ _=>False,fun _ _ _ _ _=>False⟩
def r66(c:CF)(k:KV)(m:Nat):J66:=Nat.rec z66 (fun _ J=>⟨Am2 c k J,Am1 c k J,Am0 c k J⟩) m
def f66(J:J66):Jump:=fun L f h=>match L with
 |0=>asS (f 0) fun l_0 c_0=>J.a0 l_0 c_0 h
 |1=>asS (f 4) fun l_4 c_4=>asS (f 6) fun l_6 c_6=>asI .u32 (f 9) fun n_9=>asI .i64 (f 52) fun n_52=>asI .i64 (f 53) fun n_53=>J.a1 (f 2) l_4 c_4 l_6 c_6 n_9 n_52 n_53 h
 |2=>asS (f 6) fun l_6 c_6=>asI .i64 (f 8) fun n_8=>J.a2 (f 2) l_6 c_6 n_8 h
 |_=>False
def u66:Bu:=[(.root,0),((.l (.r (.l (.r (.l (.r (.l (.r (.r (.r (.r (.r .root)))))))))))),1),((.r (.r (.r (.r (.r (.r .root)))))),2)]
def d67:Code:=Option.rec .skip (fun c=>c) Tryz.f67.body
def q67:Aw:=[]
structure J67 where
 a0:AV→H→Prop
def Amz(c:CF)(k:KV)(_J:J67)(v_0:AV)(h:H):Prop:=
 asG v_0 fun g1=>
 chk (Nat.ble 1 (len g1))<|
 Hp.Fx h (rowOf 43 g1) fun p2 h3=>
 Am 1 (.ptr p2 0) fun v4=>
 ld1 v4 h3 fun v5=>
 asS v5 fun l6 c7=>
 cnd (Bm l6 c7 2 14908)
 (k (.str 1 91) h3)
 (cnd (Bm l6 c7 2 15930)
 (k (.str 1 93) h3)
 (cnd (Bm l6 c7 2 9532)
 (k (.str 1 123) h3)
 (cnd (Bm l6 c7 2 15909)
 (k (.str 1 125) h3)
 (ldn 8 (.ptr p2 0) h3 fun v8=>
 c (.func 119) [v8] h3 fun v9 h10=>
 asB v9 fun b11=>
 An (fun k12=>gate false b11
 (ldn 8 (.ptr p2 0) h10 fun v15=>
 c (.func 120) [v15] h10 fun v16 h17=>
 asB v16 fun b18=>
 k12 b18 h17)
 (k12 true h10)) fun b14 h13=>
 cnd b14
 (k (.str 0 0) h13)
 (Am 1 (.ptr p2 0) fun v19=>
 ld1 v19 h13 fun v20=>
 asS v20 fun l21 c22=>
 k (.str l21 c22) h13)))))
def z67:J67:=⟨fun _ _=>False⟩
def r67(c:CF)(k:KV)(m:Nat):J67:=Nat.rec z67 (fun _ J=>⟨Amz c k J⟩) m
def f67(J:J67):Jump:=fun L f h=>match L with
 |0=>J.a0 (f 0) h
 |_=>False
def u67:Bu:=[(.root,0)]
def d74:Code:=Option.rec .skip (fun c=>c) Tryz.f74.body
def q74:Aw:=[]
structure J74 where
 a0:AV→AV→H→Prop
def Amy(c:CF)(k:KV)(_J:J74)(v_0 v_1:AV)(h:H):Prop:=
 oK (Ck v_0 h) fun v1 h2=>
 Am 0 v1 fun v3=>
 c (.func 122) [v3] h2 fun v4 h5=>
 asB v4 fun b6=>
 cnd (Da b6)
 (c (.func 123) [v_0,v_1] h5 fun _ h8=>
 k (.tuple []) h8)
 (k (.tuple []) h5)
def z74:J74:=⟨fun _ _ _=>False⟩
def r74(c:CF)(k:KV)(m:Nat):J74:=Nat.rec z74 (fun _ J=>⟨Amy c k J⟩) m
def f74(J:J74):Jump:=fun L f h=>match L with
 |0=>J.a0 (f 0) (f 1) h
 |_=>False
def u74:Bu:=[(.root,0)]
def d75:Code:=Option.rec .skip (fun c=>c) Tryz.f75.body
def q75:Aw:=[(4294967294,[0]),(4294967295,[15])]
def u75:Bu:=[(.root,0)]
def d76:Code:=Option.rec .skip (fun c=>c) Tryz.f76.body
def q76:Aw:=[]
def u76:Bu:=[(.root,0)]
def d77:Code:=Option.rec .skip (fun c=>c) Tryz.f77.body
def q77:Aw:=[]
structure J77 where
 a0:Nat→Nat→H→Prop
def Amx(c:CF)(k:KV)(_J:J77)(l_0 c_0:Nat)(h:H):Prop:=
 c (.func 128) [(.str l_0 c_0)] h fun v1 h2=>
 c (.func 127) [v1] h2 fun v3 h4=>
 An (fun k5=>gate true (Cs (Int.ofNat 0) (Int.ofNat l_0))
 (Ef v3 fun m8=>
 An (fun k9=>gate false (Ba (Int.ofNat m8) (Int.ofNat 0))
 (Ef v3 fun m12=>
 fI (wrap .i64 (Jj (Int.ofNat m12) (Int.ofNat 1))) fun n13=>
 Ci n13 fun m14=>
 Bz 3 m14 v3 fun v15=>
 Am 0 v15 fun v16=>
 ld1 v16 h4 fun v17=>
 asI .u8 v17 fun n18=>
 k9 (Da (Ba n18 (Int.ofNat 10))) h4)
 (k9 true h4)) fun b11 h10=>
 k5 b11 h10)
 (k5 false h4)) fun b7 h6=>
 cnd b7
 (oK (Bp env (env.ty 174) [(0,(.int .u8 (Int.ofNat 10))),(1,(.int .i64 (Int.ofNat l_0))),(2,(.int .i64 (Int.ofNat l_0)))] h6) fun v19 h20=>
 oK (Ao env 171 (fun e ei=>Ak 1 [(0,v19)] h20 e ei)) fun v21 h22=>
 oK (Aq env .append [171,171] [v3,v21] h22) fun v23 h24=>
 k v23 h24)
 (k v3 h6)
def z77:J77:=⟨fun _ _ _=>False⟩
def r77(c:CF)(k:KV)(m:Nat):J77:=Nat.rec z77 (fun _ J=>⟨Amx c k J⟩) m
def f77(J:J77):Jump:=fun L f h=>match L with
 |0=>asS (f 0) fun l_0 c_0=>J.a0 l_0 c_0 h
 |_=>False
def u77:Bu:=[(.root,0)]
def d78:Code:=Option.rec .skip (fun c=>c) Tryz.f78.body
def q78:Aw:=[]
structure J78 where
 a0:Int→H→Prop
def Amw(_c:CF)(k:KV)(_J:J78)(n_0:Int)(h:H):Prop:=
 An (fun k1=>gate false (Ba n_0 (Int.ofNat 32))
 (k1 (Ba n_0 (Int.ofNat 9)) h)
 (k1 true h)) fun b3 h2=>
 An (fun k4=>gate false b3
 (An (fun k7=>gate true (Ex (Int.ofNat 11) n_0)
 (k7 (Ex n_0 (Int.ofNat 13)) h2)
 (k7 false h2)) fun b9 h8=>
 k4 b9 h8)
 (k4 true h2)) fun b6 h5=>
 k (.bool b6) h5
def z78:J78:=⟨fun _ _=>False⟩
def r78(c:CF)(k:KV)(m:Nat):J78:=Nat.rec z78 (fun _ J=>⟨Amw c k J⟩) m
def f78(J:J78):Jump:=fun L f h=>match L with
 |0=>asI .u8 (f 0) fun n_0=>J.a0 n_0 h
 |_=>False
def u78:Bu:=[(.root,0)]
def d79:Code:=Option.rec .skip (fun c=>c) Tryz.f79.body
def q79:Aw:=[]
structure J79 where
 a0:AV→Int→H→Prop
 a1:AV→Int→H→Prop
 a2:AV→Int→H→Prop
def Amv(c:CF)(k:KV)(J:J79)(v_0:AV)(n_1:Int)(h:H):Prop:=
 c (.func 129) [v_0,(.int .i64 n_1)] h fun v1 h2=>
 asI .u8 v1 fun n3=>
 cnd (Da (Ba n3 (Int.ofNat 47)))
 (k (.tuple [(.int .i64 n_1),(.bool false)]) h2)
 (fI (wrap .i64 (Bn n_1 (Int.ofNat 1))) fun n4=>
 c (.func 129) [v_0,(.int .i64 n4)] h2 fun v5 h6=>
 asI .u8 v5 fun n7=>
 cnd (Ba n7 (Int.ofNat 47))
 (J.a1 v_0 n_1 h6)
 (fI (wrap .i64 (Bn n_1 (Int.ofNat 1))) fun n8=>
 c (.func 129) [v_0,(.int .i64 n8)] h6 fun v9 h10=>
 asI .u8 v9 fun n11=>
 cnd (Da (Ba n11 (Int.ofNat 42)))
 (k (.tuple [(.int .i64 n_1),(.bool false)]) h10)
 (fI (wrap .i64 (Bn n_1 (Int.ofNat 2))) fun n12=>
 J.a2 v_0 n12 h10)))
def Amu(_c:CF)(k:KV)(J:J79)(v_0:AV)(n_6:Int)(h:H):Prop:=
 Ef v_0 fun m13=>
 An (fun k14=>gate true (Cs n_6 (Int.ofNat m13))
 (Ci n_6 fun m17=>
 Bz 3 m17 v_0 fun v18=>
 Am 0 v18 fun v19=>
 ld1 v19 h fun v20=>
 asI .u8 v20 fun n21=>
 k14 (Da (Ba n21 (Int.ofNat 10))) h)
 (k14 false h)) fun b16 h15=>
 cnd b16
 (fI (wrap .i64 (Bn n_6 (Int.ofNat 1))) fun n22=>
 J.a1 v_0 n22 h15)
 (k (.tuple [(.int .i64 n_6),(.bool false)]) h15)
def Amt(c:CF)(k:KV)(J:J79)(v_0:AV)(n_7:Int)(h:H):Prop:=
 Ef v_0 fun m23=>
 cnd (Cs n_7 (Int.ofNat m23))
 (Ci n_7 fun m24=>
 Bz 3 m24 v_0 fun v25=>
 Am 0 v25 fun v26=>
 ld1 v26 h fun v27=>
 asI .u8 v27 fun n28=>
 An (fun k29=>gate true (Ba n28 (Int.ofNat 42))
 (fI (wrap .i64 (Bn n_7 (Int.ofNat 1))) fun n32=>
 c (.func 129) [v_0,(.int .i64 n32)] h fun v33 h34=>
 asI .u8 v33 fun n35=>
 k29 (Ba n35 (Int.ofNat 47)) h34)
 (k29 false h)) fun b31 h30=>
 cnd b31
 (fI (wrap .i64 (Bn n_7 (Int.ofNat 2))) fun n36=>
 k (.tuple [(.int .i64 n36),(.bool false)]) h30)
 (fI (wrap .i64 (Bn n_7 (Int.ofNat 1))) fun n37=>
 J.a2 v_0 n37 h30))
 (Ef v_0 fun m38=>
 k (.tuple [(.int .i64 (Int.ofNat m38)),(.bool true)]) h)
def z79:J79:=⟨fun _ _ _=>False,fun _ _ _=>False,fun _ _ _=>False⟩
def r79(c:CF)(k:KV)(m:Nat):J79:=Nat.rec z79 (fun _ J=>⟨Amv c k J,Amu c k J,Amt c k J⟩) m
def f79(J:J79):Jump:=fun L f h=>match L with
 |0=>asI .i64 (f 1) fun n_1=>J.a0 (f 0) n_1 h
 |1=>asI .i64 (f 6) fun n_6=>J.a1 (f 0) n_6 h
 |2=>asI .i64 (f 7) fun n_7=>J.a2 (f 0) n_7 h
 |_=>False
def u79:Bu:=[(.root,0),((.l (.l (.r (.l (.r (.l (.r (.r .root)))))))),1),((.l (.r (.l (.r (.r (.r (.r .root))))))),2)]
def d80:Code:=Option.rec .skip (fun c=>c) Tryz.f80.body
def q80:Aw:=[]
structure J80 where
 a0:AV→Int→H→Prop
 a1:AV→Int→H→Prop
 a2:AV→Int→H→Prop
def Ams(c:CF)(k:KV)(J:J80)(v_0:AV)(n_1:Int)(h:H):Prop:=
 c (.func 130) [v_0,(.int .i64 n_1)] h fun v1 h2=>
 asI .i64 v1 fun n3=>
 cnd (Ex (Int.ofNat 0) n3)
 (fI (wrap .i64 (Bn n_1 n3)) fun n4=>
 c (.func 131) [v_0,(.int .i64 n4)] h2 fun v5 h6=>
 asI .i64 v5 fun n7=>
 An (fun k8=>gate true (Cs (Int.ofNat 0) n7)
 (fI (wrap .i64 (Bn n_1 n3)) fun n11=>
 c (.func 129) [v_0,(.int .i64 n11)] h6 fun v12 h13=>
 asI .u8 v12 fun n14=>
 k8 (Ba n14 (Int.ofNat 34)) h13)
 (k8 false h6)) fun b10 h9=>
 cnd b10
 (k (.tuple [(.int .i64 (Int.ofNat 4)),(.int .i64 n7),(.bool false)]) h9)
 (cnd (Cs (Int.ofNat 0) n7)
 (k (.tuple [(.int .i64 (Int.ofNat 3)),(.int .i64 n7),(.bool false)]) h9)
 (cnd (Ba n3 (Int.ofNat 0))
 (fI (wrap .i64 (Bn n_1 (Int.ofNat 1))) fun n15=>
 k (.tuple [(.int .i64 (Int.ofNat 6)),(.int .i64 n15),(.bool true)]) h9)
 (J.a2 v_0 n_1 h9))))
 (J.a2 v_0 n_1 h2)
def Amr(c:CF)(k:KV)(J:J80)(v_0:AV)(n_9:Int)(h:H):Prop:=
 c (.func 129) [v_0,(.int .i64 n_9)] h fun v16 h17=>
 asI .u8 v16 fun n18=>
 c (.func 132) [(.int .u8 n18)] h17 fun v19 h20=>
 asB v19 fun b21=>
 An (fun k22=>gate false b21
 (c (.func 129) [v_0,(.int .i64 n_9)] h20 fun v25 h26=>
 asI .u8 v25 fun n27=>
 c (.func 133) [(.int .u8 n27)] h26 fun v28 h29=>
 asB v28 fun b30=>
 k22 b30 h29)
 (k22 true h20)) fun b24 h23=>
 cnd b24
 (fI (wrap .i64 (Bn n_9 (Int.ofNat 1))) fun n31=>
 J.a1 v_0 n31 h23)
 (k (.tuple [(.int .i64 (Int.ofNat 1)),(.int .i64 n_9),(.bool false)]) h23)
def Amq(c:CF)(k:KV)(J:J80)(v_0:AV)(n_1:Int)(h:H):Prop:=
 c (.func 129) [v_0,(.int .i64 n_1)] h fun v32 h33=>
 asI .u8 v32 fun n34=>
 c (.func 132) [(.int .u8 n34)] h33 fun v35 h36=>
 asB v35 fun b37=>
 cnd b37
 (fI (wrap .i64 (Bn n_1 (Int.ofNat 1))) fun n38=>
 J.a1 v_0 n38 h36)
 (c (.func 134) [v_0,(.int .i64 n_1)] h36 fun v39 h40=>
 asI .i64 v39 fun n41=>
 cnd (Cs n_1 n41)
 (k (.tuple [(.int .i64 (Int.ofNat 2)),(.int .i64 n41),(.bool false)]) h40)
 (c (.func 135) [v_0,(.int .i64 n_1)] h40 fun v42 h43=>
 asI .i64 v42 fun n44=>
 cnd (Cs (Int.ofNat 0) n44)
 (fI (wrap .i64 (Bn n_1 n44)) fun n45=>
 k (.tuple [(.int .i64 (Int.ofNat 5)),(.int .i64 n45),(.bool false)]) h43)
 (fI (wrap .i64 (Bn n_1 (Int.ofNat 1))) fun n46=>
 k (.tuple [(.int .i64 (Int.ofNat 6)),(.int .i64 n46),(.bool false)]) h43)))
def z80:J80:=⟨fun _ _ _=>False,fun _ _ _=>False,fun _ _ _=>False⟩
def r80(c:CF)(k:KV)(m:Nat):J80:=Nat.rec z80 (fun _ J=>⟨Ams c k J,Amr c k J,Amq c k J⟩) m
def f80(J:J80):Jump:=fun L f h=>match L with
 |0=>asI .i64 (f 1) fun n_1=>J.a0 (f 0) n_1 h
 |1=>asI .i64 (f 9) fun n_9=>J.a1 (f 0) n_9 h
 |2=>asI .i64 (f 1) fun n_1=>J.a2 (f 0) n_1 h
 |_=>False
def u80:Bu:=[(.root,0),((.l (.l (.r (.l (.r (.l (.r (.r (.r .root))))))))),1),((.r (.r (.r .root))),2)]
def d81:Code:=Option.rec .skip (fun c=>c) Tryz.f81.body
def q81:Aw:=[]
structure J81 where
 a0:AV→H→Prop
 a1:AV→AV→Int→H→Prop
def Amp(_c:CF)(_k:KV)(J:J81)(v_0:AV)(h:H):Prop:=
 J.a1 v_0 .Ad (Int.ofNat 0) h
def Amo(_c:CF)(k:KV)(J:J81)(v_0 v_3:AV)(n_4:Int)(h:H):Prop:=
 Ef v_0 fun m1=>
 cnd (Cs n_4 (Int.ofNat m1))
 (Ci n_4 fun m2=>
 Bz 3 m2 v_0 fun v3=>
 Am 0 v3 fun v4=>
 ld1 v4 h fun v5=>
 asI .u8 v5 fun n6=>
 oK (Ao env 115 (fun e ei=>Ak 1 [(0,(.int .u8 n6))] h e ei)) fun v7 h8=>
 oK (Aq env .append [115,115] [v_3,v7] h8) fun v9 h10=>
 fI (wrap .i64 (Bn n_4 (Int.ofNat 1))) fun n11=>
 J.a1 v_0 v9 n11 h10)
 (oK (Gh env h 115 9 v_3) fun v12 h13=>
 asS v12 fun l14 c15=>
 k (.str l14 c15) h13)
def z81:J81:=⟨fun _ _=>False,fun _ _ _ _=>False⟩
def r81(c:CF)(k:KV)(m:Nat):J81:=Nat.rec z81 (fun _ J=>⟨Amp c k J,Amo c k J⟩) m
def f81(J:J81):Jump:=fun L f h=>match L with
 |0=>J.a0 (f 0) h
 |1=>asI .i64 (f 4) fun n_4=>J.a1 (f 0) (f 3) n_4 h
 |_=>False
def u81:Bu:=[(.root,0),((.l (.r (.l (.r (.r .root))))),1)]
def d107:Code:=Option.rec .skip (fun c=>c) Tryz.f107.body
def Bc0:Aw:=[]
structure Axt where
 a0:AV→Int→H→Prop
def Afg(c:CF)(k:KV)(_J:Axt)(v_0:AV)(n_1:Int)(h:H):Prop:=
 c (.func 110) [v_0] h fun _ h2=>
 oK (Ck v_0 h2) fun v3 h4=>
 Am 1 v3 fun v5=>
 ld1 v5 h4 fun v6=>
 oK (Ao env 115 (fun e ei=>Ak 1 [(0,(.int .u8 n_1))] h4 e ei)) fun v7 h8=>
 oK (Aq env .append [115,115] [v6,v7] h8) fun v9 h10=>
 oK (Ck v_0 h10) fun v11 h12=>
 Am 1 v11 fun v13=>
 st1 v13 v9 h12 fun h14=>
 k .He h14
def z107:Axt:=⟨fun _ _ _=>False⟩
def Asu(c:CF)(k:KV)(m:Nat):Axt:=Nat.rec z107 (fun _ J=>⟨Afg c k J⟩) m
def f107(J:Axt):Jump:=fun L f h=>match L with
 |0=>asI .u8 (f 1) fun n_1=>J.a0 (f 0) n_1 h
 |_=>False
def Bbs:Bu:=[(.root,0)]
def d108:Code:=Option.rec .skip (fun c=>c) Tryz.f108.body
def Ayu:Aw:=[]
structure Ag2 where
 a0:Nat→Nat→H→Prop
 a1:Int→Int→Int→AV→H→Prop
 a2:Nat→Nat→Int→Int→Int→H→Prop
def Aff(c:CF)(k:KV)(J:Ag2)(l_0 c_0:Nat)(h:H):Prop:=
 cnd (Bm l_0 c_0 0 0)
 (k (.tuple [(.int .u8 (Int.ofNat 0)),(.int .i64 (Int.ofNat 0))]) h)
 (Eb l_0 c_0 0 fun m1=>
 c (.func 160) [(.str 11 143203152110517486444552743),(.int .u8 (Int.ofNat m1))] h fun v2 h3=>
 asI .i64 v2 fun n4=>
 cnd (Ex (Int.ofNat 0) n4)
 (Ci n4 fun m5=>
 Eb 11 13340925845742173758104103 m5 fun m6=>
 k (.tuple [(.int .u8 (Int.ofNat m6)),(.int .i64 (Int.ofNat 1))]) h3)
 (c (.func 116) [(.str l_0 c_0),(.str 8 3978425819141910832)] h3 fun v7 h8=>
 asI .i64 v7 fun n9=>
 oK (Aq env .min [3,3] [(.int .i64 n9),(.int .i64 (Int.ofNat 3))] h8) fun v10 h11=>
 asI .i64 v10 fun n12=>
 Eb l_0 c_0 0 fun m13=>
 cnd (Ba (Int.ofNat m13) (Int.ofNat 120))
 (Ge l_0 c_0 1 l_0 fun l14 c15=>
 c (.func 116) [(.str l14 c15),(.str 22 26291342665239622251265189840170011249128153612955952)] h11 fun v16 h17=>
 asI .i64 v16 fun n18=>
 fI (wrap .i64 (Bn (Int.ofNat 1) n18)) fun n19=>
 J.a2 l_0 c_0 n19 (Int.ofNat 16) (Int.ofNat 1) h17)
 (J.a2 l_0 c_0 n12 (Int.ofNat 8) (Int.ofNat 0) h11)))
def Afe(c:CF)(k:KV)(J:Ag2)(n_5 n_6 n_8:Int)(v_38:AV)(h:H):Prop:=
 oK (Sy v_38 true h) fun v20 h21=>
 ext 0 v20 fun v22=>
 asB v22 fun b23=>
 cnd b23
 (ext 2 v20 fun v24=>
 asI .i32 v24 fun n25=>
 fI (wrap .i64 (n_8*n_6)) fun n26=>
 c (.func 162) [(.str 22 26291342665239622251265189840170011249128153612955952),(.int .i32 n25)] h21 fun v27 h28=>
 asI .i64 v27 fun n29=>
 fI (wrap .i64 (Bn n26 n29)) fun n30=>
 Aby Nat.land .i64 n30 (Int.ofNat 4095) fun n31=>
 J.a1 n_5 n_6 n31 v_38 h28)
 (fI (wrap .u8 n_8) fun n32=>
 k (.tuple [(.int .u8 n32),(.int .i64 n_5)]) h21)
def Afd(c:CF)(k:KV)(J:Ag2)(l_0 c_0:Nat)(n_5 n_6 n_7:Int)(h:H):Prop:=
 cnd (Ex n_5 n_7)
 (k (.tuple [(.int .u8 (Int.ofNat 0)),(.int .i64 (Int.ofNat 0))]) h)
 (Ci n_5 fun m33=>
 Ci n_7 fun m34=>
 Ge l_0 c_0 m34 m33 fun l35 c36=>
 c (.func 161) [(.str l35 c36)] h fun v37 h38=>
 asS v37 fun l39 c40=>
 oK (Nz env 9 (.str l39 c40) h38) fun v41 h42=>
 J.a1 n_5 n_6 (Int.ofNat 0) v41 h42)
def Bh4:Ag2:=⟨fun _ _ _=>False,fun _ _ _ _ _=>False,fun _ _ _ _ _ _=>False⟩
def Zm(c:CF)(k:KV)(m:Nat):Ag2:=Nat.rec Bh4 (fun _ J=>⟨Aff c k J,Afe c k J,Afd c k J⟩) m
def f108(J:Ag2):Jump:=fun L f h=>match L with
 |0=>asS (f 0) fun l_0 c_0=>J.a0 l_0 c_0 h
 |1=>asI .i64 (f 5) fun n_5=>asI .i64 (f 6) fun n_6=>asI .i64 (f 8) fun n_8=>J.a1 n_5 n_6 n_8 (f 38) h
 |2=>asS (f 0) fun l_0 c_0=>asI .i64 (f 5) fun n_5=>asI .i64 (f 6) fun n_6=>asI .i64 (f 7) fun n_7=>J.a2 l_0 c_0 n_5 n_6 n_7 h
 |_=>False
def Ax4:Bu:=[(.root,0),((.l (.r (.l (.r (.r (.r (.r (.r (.r (.r .root)))))))))),1),((.r (.r (.r (.r (.r .root))))),2)]
def d109:Code:=Option.rec .skip (fun c=>c) Tryz.f109.body
def Bcz:Aw:=[]
structure Axs where
 a0:Nat→Nat→Nat→Nat→H→Prop
def Afc(c:CF)(k:KV)(_J:Axs)(l_0 c_0:Nat)(l_1 c_1:Nat)(h:H):Prop:=
 c (.func 163) [(.str l_0 c_0),(.str l_1 c_1)] h fun v1 h2=>
 ext 0 v1 fun v3=>
 asS v3 fun l4 c5=>
 ext 1 v1 fun v6=>
 asB v6 fun b7=>
 k (.tuple [(.str l4 c5),(.bool b7)]) h2
def z109:Axs:=⟨fun _ _ _ _ _=>False⟩
def Ass(c:CF)(k:KV)(m:Nat):Axs:=Nat.rec z109 (fun _ J=>⟨Afc c k J⟩) m
def f109(J:Axs):Jump:=fun L f h=>match L with
 |0=>asS (f 0) fun l_0 c_0=>asS (f 1) fun l_1 c_1=>J.a0 l_0 c_0 l_1 c_1 h
 |_=>False
def Bbr:Bu:=[(.root,0)]
def d110:Code:=Option.rec .skip (fun c=>c) Tryz.f110.body
def Bcy:Aw:=[]
structure Axr where
 a0:AV→H→Prop
def Afb(c:CF)(k:KV)(_J:Axr)(v_0:AV)(h:H):Prop:=
 oK (Ck v_0 h) fun v1 h2=>
 Am 0 v1 fun v3=>
 ld1 v3 h2 fun v4=>
 oV (Kz env .eql 147 v4 .Fq) fun v5=>
 asB v5 fun b6=>
 cnd b6
 (oK (Gh env h2 147 258 v_0) fun v7 h8=>
 c (.func 164) [v7] h8 fun v9 h10=>
 oK (Gh env h10 258 147 v9) fun v11 h12=>
 oK (Ck v_0 h12) fun v13 h14=>
 Am 0 v13 fun v15=>
 st1 v15 v11 h14 fun h16=>
 k (.tuple []) h16)
 (oK (Ck v_0 h2) fun v17 h18=>
 Am 0 v17 fun v19=>
 ld1 v19 h18 fun v20=>
 oV (Kz env .neq 147 v20 v_0) fun v21=>
 asB v21 fun b22=>
 cnd b22
 (False)
 (k (.tuple []) h18))
def Bh3:Axr:=⟨fun _ _=>False⟩
def Asr(c:CF)(k:KV)(m:Nat):Axr:=Nat.rec Bh3 (fun _ J=>⟨Afb c k J⟩) m
def f110(J:Axr):Jump:=fun L f h=>match L with
 |0=>J.a0 (f 0) h
 |_=>False
def Bbq:Bu:=[(.root,0)]
def d111:Code:=Option.rec .skip (fun c=>c) Tryz.f111.body
def Bcx:Aw:=[]
structure Axq where
 a0:Nat→Nat→H→Prop
def Afa(c:CF)(k:KV)(_J:Axq)(l_0 c_0:Nat)(h:H):Prop:=
 oK (Ao env 44 (fun e ei=>Ak 4 [(0,(.str 1 34)),(1,(.str 2 8796)),(2,(.str 1 92)),(3,(.str 2 23644))] h e ei)) fun v1 h2=>
 c (.func 165) [v1] h2 fun v3 h4=>
 c (.func 166) [v3,(.str l_0 c_0)] h4 fun v5 h6=>
 asS v5 fun l7 c8=>
 k (.str l7 c8) h6
def Bh2:Axq:=⟨fun _ _ _=>False⟩
def Asq(c:CF)(k:KV)(m:Nat):Axq:=Nat.rec Bh2 (fun _ J=>⟨Afa c k J⟩) m
def f111(J:Axq):Jump:=fun L f h=>match L with
 |0=>asS (f 0) fun l_0 c_0=>J.a0 l_0 c_0 h
 |_=>False
def Bbp:Bu:=[(.root,0)]
def d112:Code:=Option.rec .skip (fun c=>c) Tryz.f112.body
def Bcw:Aw:=[]
structure Axp where
 a0:Nat→Nat→Nat→Nat→H→Prop
def Ae9(c:CF)(k:KV)(_J:Axp)(l_0 c_0:Nat)(l_1 c_1:Nat)(h:H):Prop:=
 An (fun k1=>gate false (Bm l_0 c_0 0 0)
 (k1 (Bm l_1 c_1 0 0) h)
 (k1 true h)) fun b3 h2=>
 cnd b3
 (k (.str l_0 c_0) h2)
 (An (fun k4=>gate true (Ba (Int.ofNat l_1) (Int.ofNat 1))
 (Eb l_1 c_1 0 fun m7=>
 k4 (Cs (Int.ofNat m7) (Int.ofNat 128)) h2)
 (k4 false h2)) fun b6 h5=>
 cnd b6
 (Eb l_1 c_1 0 fun m8=>
 c (.func 167) [(.str l_0 c_0),(.int .u8 (Int.ofNat m8))] h5 fun v9 h10=>
 asS v9 fun l11 c12=>
 k (.str l11 c12) h10)
 (c (.func 168) [(.str l_1 c_1)] h5 fun v13 h14=>
 ext 0 v13 fun v15=>
 ext 1 v13 fun v16=>
 asB v16 fun b17=>
 Hp.Fx h14 A09 fun p18 h19=>
 stn 256 (.ptr p18 0) v15 h19 fun h20=>
 cnd b17
 (c (.func 169) [(.str l_0 c_0),(.ptr p18 0)] h20 fun v21 h22=>
 asS v21 fun l23 c24=>
 k (.str l23 c24) h22)
 (c (.func 170) [(.str l_0 c_0),(.str l_1 c_1)] h20 fun v25 h26=>
 asS v25 fun l27 c28=>
 k (.str l27 c28) h26)))
def Bh1:Axp:=⟨fun _ _ _ _ _=>False⟩
def Asp(c:CF)(k:KV)(m:Nat):Axp:=Nat.rec Bh1 (fun _ J=>⟨Ae9 c k J⟩) m
def f112(J:Axp):Jump:=fun L f h=>match L with
 |0=>asS (f 0) fun l_0 c_0=>asS (f 1) fun l_1 c_1=>J.a0 l_0 c_0 l_1 c_1 h
 |_=>False
def Bbo:Bu:=[(.root,0)]
def d113:Code:=Option.rec .skip (fun c=>c) Tryz.f113.body
def A31:Aw:=[(3,[0,1,2,3]),(5,[0,1,2,3,4,5,6])]
structure Amk where
 a0:Nat→Nat→H→Prop
 a1:Nat→Nat→Bool→H→Prop
def Ae8(_c:CF)(_k:KV)(J:Amk)(l_0 c_0:Nat)(h:H):Prop:=
 cnd (Bm l_0 c_0 0 0)
 (J.a1 l_0 c_0 false h)
 (Eb l_0 c_0 0 fun m1=>
 An (fun k2=>gate false (Ba (Int.ofNat m1) (Int.ofNat 117))
 (Eb l_0 c_0 0 fun m5=>
 k2 (Ba (Int.ofNat m5) (Int.ofNat 85)) h)
 (k2 true h)) fun b4 h3=>
 cnd b4
 (Ge l_0 c_0 1 l_0 fun l6 c7=>
 J.a1 l6 c7 true h3)
 (fI (wrap .i64 (Jj (Int.ofNat l_0) (Int.ofNat 1))) fun n8=>
 Ci n8 fun m9=>
 Eb l_0 c_0 m9 fun m10=>
 An (fun k11=>gate false (Ba (Int.ofNat m10) (Int.ofNat 117))
 (fI (wrap .i64 (Jj (Int.ofNat l_0) (Int.ofNat 1))) fun n14=>
 Ci n14 fun m15=>
 Eb l_0 c_0 m15 fun m16=>
 k11 (Ba (Int.ofNat m16) (Int.ofNat 85)) h3)
 (k11 true h3)) fun b13 h12=>
 cnd b13
 (fI (wrap .i64 (Jj (Int.ofNat l_0) (Int.ofNat 1))) fun n17=>
 Ci n17 fun m18=>
 Ge l_0 c_0 0 m18 fun l19 c20=>
 J.a1 l19 c20 true h12)
 (J.a1 l_0 c_0 false h12)))
def Ae7(_c:CF)(k:KV)(_J:Amk)(l_0 c_0:Nat)(b_2:Bool)(h:H):Prop:=
 An (fun k21=>gate false (Bm l_0 c_0 0 0)
 (k21 (Bm l_0 c_0 1 108) h)
 (k21 true h)) fun b23 h22=>
 An (fun k24=>gate false b23
 (k24 (Bm l_0 c_0 1 76) h22)
 (k24 true h22)) fun b26 h25=>
 An (fun k27=>gate false b26
 (k27 (Bm l_0 c_0 2 27756) h25)
 (k27 true h25)) fun b29 h28=>
 An (fun k30=>gate false b29
 (k30 (Bm l_0 c_0 2 19532) h28)
 (k30 true h28)) fun b32 h31=>
 k (.tuple [(.bool b_2),(.bool b32)]) h31
def Bh0:Amk:=⟨fun _ _ _=>False,fun _ _ _ _=>False⟩
def Ahw(c:CF)(k:KV)(m:Nat):Amk:=Nat.rec Bh0 (fun _ J=>⟨Ae8 c k J,Ae7 c k J⟩) m
def f113(J:Amk):Jump:=fun L f h=>match L with
 |0=>asS (f 0) fun l_0 c_0=>J.a0 l_0 c_0 h
 |1=>asS (f 0) fun l_0 c_0=>asB (f 2) fun b_2=>J.a1 l_0 c_0 b_2 h
 |_=>False
def A29:Bu:=[(.root,0),((.r (.r .root)),1)]
def d114:Code:=Option.rec .skip (fun c=>c) Tryz.f114.body
def Bcv:Aw:=[]
structure Axo where
 a0:Nat→Nat→H→Prop
def Ae6(c:CF)(k:KV)(_J:Axo)(l_0 c_0:Nat)(h:H):Prop:=
 c (.func 115) [(.str l_0 c_0),(.str 2 30768)] h fun v1 h2=>
 asB v1 fun b3=>
 An (fun k4=>gate false b3
 (c (.func 115) [(.str l_0 c_0),(.str 2 22576)] h2 fun v7 h8=>
 asB v7 fun b9=>
 k4 b9 h8)
 (k4 true h2)) fun b6 h5=>
 k (.bool b6) h5
def Bhz:Axo:=⟨fun _ _ _=>False⟩
def Aso(c:CF)(k:KV)(m:Nat):Axo:=Nat.rec Bhz (fun _ J=>⟨Ae6 c k J⟩) m
def f114(J:Axo):Jump:=fun L f h=>match L with
 |0=>asS (f 0) fun l_0 c_0=>J.a0 l_0 c_0 h
 |_=>False
def Bbn:Bu:=[(.root,0)]
def d115:Code:=Option.rec .skip (fun c=>c) Tryz.f115.body
def Bcu:Aw:=[]
structure Axn where
 a0:Nat→Nat→Nat→Nat→H→Prop
def Akf(c:CF)(k:KV)(_J:Axn)(l_0 c_0:Nat)(l_1 c_1:Nat)(h:H):Prop:=
 c (.func 171) [(.str l_0 c_0),(.str l_1 c_1)] h fun v1 h2=>
 asB v1 fun b3=>
 k (.bool b3) h2
def Bhy:Axn:=⟨fun _ _ _ _ _=>False⟩
def Asn(c:CF)(k:KV)(m:Nat):Axn:=Nat.rec Bhy (fun _ J=>⟨Akf c k J⟩) m
def f115(J:Axn):Jump:=fun L f h=>match L with
 |0=>asS (f 0) fun l_0 c_0=>asS (f 1) fun l_1 c_1=>J.a0 l_0 c_0 l_1 c_1 h
 |_=>False
def Bbm:Bu:=[(.root,0)]
def d116:Code:=Option.rec .skip (fun c=>c) Tryz.f116.body
def Bct:Aw:=[]
structure Axm where
 a0:Nat→Nat→Nat→Nat→H→Prop
def Ae5(c:CF)(k:KV)(_J:Axm)(l_0 c_0:Nat)(l_1 c_1:Nat)(h:H):Prop:=
 c (.func 172) [(.str l_0 c_0),(.str l_1 c_1)] h fun v1 h2=>
 asS v1 fun l3 _=>
 fI (wrap .i64 (Jj (Int.ofNat l_0) (Int.ofNat l3))) fun n5=>
 k (.int .i64 n5) h2
def z116:Axm:=⟨fun _ _ _ _ _=>False⟩
def Asm(c:CF)(k:KV)(m:Nat):Axm:=Nat.rec z116 (fun _ J=>⟨Ae5 c k J⟩) m
def f116(J:Axm):Jump:=fun L f h=>match L with
 |0=>asS (f 0) fun l_0 c_0=>asS (f 1) fun l_1 c_1=>J.a0 l_0 c_0 l_1 c_1 h
 |_=>False
def Bbl:Bu:=[(.root,0)]
def d117:Code:=Option.rec .skip (fun c=>c) Tryz.f117.body
def Bcs:Aw:=[]
structure Axl where
 a0:Nat→Nat→Int→Int→H→Prop
def Ae4(c:CF)(k:KV)(_J:Axl)(l_0 c_0:Nat)(n_1 n_2:Int)(h:H):Prop:=
 c (.func 173) [(.str l_0 c_0),(.int .i64 n_1),(.int .i64 n_2)] h fun v1 h2=>
 ext 0 v1 fun v3=>
 asI .u64 v3 fun n4=>
 ext 1 v1 fun v5=>
 oV (Kz env .neq 151 v5 .He) fun v6=>
 asB v6 fun b7=>
 cnd b7
 (c (.func 174) [(.str 9 2147778296661251613008),(.str l_0 c_0),(.int .i64 n_1),(.int .i64 n_2),v5] h2 fun v8 h9=>
 k (.tuple [(.int .u64 n4),v8]) h9)
 (k (.tuple [(.int .u64 n4),.He]) h2)
def z117:Axl:=⟨fun _ _ _ _ _=>False⟩
def Asl(c:CF)(k:KV)(m:Nat):Axl:=Nat.rec z117 (fun _ J=>⟨Ae4 c k J⟩) m
def f117(J:Axl):Jump:=fun L f h=>match L with
 |0=>asS (f 0) fun l_0 c_0=>asI .i64 (f 1) fun n_1=>asI .i64 (f 2) fun n_2=>J.a0 l_0 c_0 n_1 n_2 h
 |_=>False
def Bbk:Bu:=[(.root,0)]
def d118:Code:=Option.rec .skip (fun c=>c) Tryz.f118.body
def A30:Aw:=[]
structure Amj where
 a0:Nat→Nat→Nat→Nat→H→Prop
 a1:Nat→Nat→Nat→Nat→H→Prop
def Ae3(c:CF)(k:KV)(J:Amj)(l_0 c_0:Nat)(l_1 c_1:Nat)(h:H):Prop:=
 An (fun k1=>gate false (Bm l_0 c_0 0 0)
 (Eb l_0 c_0 0 fun m4=>
 c (.func 160) [(.str l_1 c_1),(.int .u8 (Int.ofNat m4))] h fun v5 h6=>
 asI .i64 v5 fun n7=>
 k1 (Cs n7 (Int.ofNat 0)) h6)
 (k1 true h)) fun b3 h2=>
 cnd b3
 (k (.tuple [(.str l_0 c_0),(.bool false)]) h2)
 (Ge l_0 c_0 1 l_0 fun l8 c9=>
 An (fun k10=>gate true (Da (Bm l8 c9 0 0))
 (Eb l8 c9 0 fun m13=>
 An (fun k14=>gate false (Ba (Int.ofNat m13) (Int.ofNat 43))
 (Eb l8 c9 0 fun m17=>
 k14 (Ba (Int.ofNat m17) (Int.ofNat 45)) h2)
 (k14 true h2)) fun b16 h15=>
 k10 b16 h15)
 (k10 false h2)) fun b12 h11=>
 cnd b12
 (Ge l8 c9 1 l8 fun l18 c19=>
 J.a1 l_0 c_0 l18 c19 h11)
 (J.a1 l_0 c_0 l8 c9 h11))
def Ae2(c:CF)(k:KV)(_J:Amj)(l_0 c_0:Nat)(l_6 c_6:Nat)(h:H):Prop:=
 c (.func 116) [(.str l_6 c_6),(.str 10 270211885617516653982000)] h fun v20 h21=>
 asI .i64 v20 fun n22=>
 cnd (Ba n22 (Int.ofNat 0))
 (k (.tuple [(.str l_0 c_0),(.bool false)]) h21)
 (Ci n22 fun m23=>
 Ge l_6 c_6 m23 l_6 fun l24 c25=>
 k (.tuple [(.str l24 c25),(.bool true)]) h21)
def Bhx:Amj:=⟨fun _ _ _ _ _=>False,fun _ _ _ _ _=>False⟩
def Abj(c:CF)(k:KV)(m:Nat):Amj:=Nat.rec Bhx (fun _ J=>⟨Ae3 c k J,Ae2 c k J⟩) m
def f118(J:Amj):Jump:=fun L f h=>match L with
 |0=>asS (f 0) fun l_0 c_0=>asS (f 1) fun l_1 c_1=>J.a0 l_0 c_0 l_1 c_1 h
 |1=>asS (f 0) fun l_0 c_0=>asS (f 6) fun l_6 c_6=>J.a1 l_0 c_0 l_6 c_6 h
 |_=>False
def A28:Bu:=[(.root,0),((.r (.r (.r (.r .root)))),1)]
def d119:Code:=Option.rec .skip (fun c=>c) Tryz.f119.body
def Bcr:Aw:=[]
structure Axk where
 a0:AV→H→Prop
def Ae1(_c:CF)(k:KV)(_J:Axk)(v_0:AV)(h:H):Prop:=
 asG v_0 fun g1=>
 chk (Nat.ble 1 (len g1))<|
 Hp.Fx h (rowOf 43 g1) fun p2 h3=>
 Am 0 (.ptr p2 0) fun v4=>
 ld1 v4 h3 fun v5=>
 asI .i64 v5 fun n6=>
 An (fun k7=>gate true (Ba n6 (Int.ofNat 5))
 (Am 1 (.ptr p2 0) fun v10=>
 ld1 v10 h3 fun v11=>
 asS v11 fun l12 c13=>
 An (fun k14=>gate false (Bm l12 c13 1 35)
 (Am 1 (.ptr p2 0) fun v17=>
 ld1 v17 h3 fun v18=>
 asS v18 fun l19 c20=>
 k14 (Bm l19 c20 2 14885) h3)
 (k14 true h3)) fun b16 h15=>
 k7 b16 h15)
 (k7 false h3)) fun b9 h8=>
 k (.bool b9) h8
def z119:Axk:=⟨fun _ _=>False⟩
def Asj(c:CF)(k:KV)(m:Nat):Axk:=Nat.rec z119 (fun _ J=>⟨Ae1 c k J⟩) m
def f119(J:Axk):Jump:=fun L f h=>match L with
 |0=>J.a0 (f 0) h
 |_=>False
def Bbj:Bu:=[(.root,0)]
def d120:Code:=Option.rec .skip (fun c=>c) Tryz.f120.body
def Bcq:Aw:=[]
structure Axj where
 a0:AV→H→Prop
def Ae0(c:CF)(k:KV)(_J:Axj)(v_0:AV)(h:H):Prop:=
 asG v_0 fun g1=>
 chk (Nat.ble 1 (len g1))<|
 Hp.Fx h (rowOf 43 g1) fun p2 h3=>
 ldn 8 (.ptr p2 0) h3 fun v4=>
 c (.func 136) [v4,(.str 2 8995)] h3 fun v5 h6=>
 asB v5 fun b7=>
 An (fun k8=>gate false b7
 (ldn 8 (.ptr p2 0) h6 fun v11=>
 c (.func 136) [v11,(.str 4 975518245)] h6 fun v12 h13=>
 asB v12 fun b14=>
 k8 b14 h13)
 (k8 true h6)) fun b10 h9=>
 k (.bool b10) h9
def Bhw:Axj:=⟨fun _ _=>False⟩
def Asi(c:CF)(k:KV)(m:Nat):Axj:=Nat.rec Bhw (fun _ J=>⟨Ae0 c k J⟩) m
def f120(J:Axj):Jump:=fun L f h=>match L with
 |0=>J.a0 (f 0) h
 |_=>False
def Bbi:Bu:=[(.root,0)]
def d122:Code:=Option.rec .skip (fun c=>c) Tryz.f122.body
def Bcp:Aw:=[]
structure Axi where
 a0:AV→H→Prop
def Aez(c:CF)(k:KV)(_J:Axi)(v_0:AV)(h:H):Prop:=
 oK (Ck v_0 h) fun v1 h2=>
 Am 0 v1 fun v3=>
 c (.func 175) [v3] h2 fun v4 h5=>
 asI .u32 v4 fun n6=>
 k (.bool (Da (Ba n6 (Int.ofNat 0)))) h5
def Bhv:Axi:=⟨fun _ _=>False⟩
def Ash(c:CF)(k:KV)(m:Nat):Axi:=Nat.rec Bhv (fun _ J=>⟨Aez c k J⟩) m
def f122(J:Axi):Jump:=fun L f h=>match L with
 |0=>J.a0 (f 0) h
 |_=>False
def Bbh:Bu:=[(.root,0)]
def d123:Code:=Option.rec .skip (fun c=>c) Tryz.f123.body
def Bmq:Aw:=[]
def Bmp:Bu:=[(.root,0)]
def d124:Code:=Option.rec .skip (fun c=>c) Tryz.f124.body
def A3z:Aw:=[]
def A27:Bu:=[(.root,0),((.l (.r (.l (.r .root)))),1),((.r (.r (.r (.r (.r (.l (.r (.l (.l (.r (.l (.r .root)))))))))))),2),((.r (.r (.r (.r (.l (.r (.l (.l (.r (.l (.r .root))))))))))),3)]
def d127:Code:=Option.rec .skip (fun c=>c) Tryz.f127.body
def Ayt:Aw:=[]
structure Ag1 where
 a0:AV→H→Prop
 a1:AV→AV→Int→H→Prop
 a2:AV→AV→Int→H→Prop
def Aey(_c:CF)(_k:KV)(J:Ag1)(v_0:AV)(h:H):Prop:=
 J.a1 v_0 .Ad (Int.ofNat 0) h
def Zd(_c:CF)(k:KV)(J:Ag1)(v_0 v_3:AV)(n_4:Int)(h:H):Prop:=
 Ef v_0 fun m1=>
 cnd (Cs n_4 (Int.ofNat m1))
 (Ci n_4 fun m2=>
 Bz 3 m2 v_0 fun v3=>
 Am 0 v3 fun v4=>
 ld1 v4 h fun v5=>
 asI .u8 v5 fun n6=>
 An (fun k7=>gate true (Ba n6 (Int.ofNat 92))
 (fI (wrap .i64 (Bn n_4 (Int.ofNat 1))) fun n10=>
 Ef v_0 fun m11=>
 k7 (Cs n10 (Int.ofNat m11)) h)
 (k7 false h)) fun b9 h8=>
 An (fun k12=>gate true b9
 (fI (wrap .i64 (Bn n_4 (Int.ofNat 1))) fun n15=>
 Ci n15 fun m16=>
 Bz 3 m16 v_0 fun v17=>
 Am 0 v17 fun v18=>
 ld1 v18 h8 fun v19=>
 asI .u8 v19 fun n20=>
 k12 (Ba n20 (Int.ofNat 10)) h8)
 (k12 false h8)) fun b14 h13=>
 cnd b14
 (fI (wrap .i64 (Bn n_4 (Int.ofNat 1))) fun n21=>
 J.a2 v_0 v_3 n21 h13)
 (Ci n_4 fun m22=>
 Bz 3 m22 v_0 fun v23=>
 ldn 3 v23 h13 fun v24=>
 oK (Ao env 171 (fun e ei=>Ak 1 [(0,v24)] h13 e ei)) fun v25 h26=>
 oK (Aq env .append [171,171] [v_3,v25] h26) fun v27 h28=>
 J.a2 v_0 v27 n_4 h28))
 (k v_3 h)
def Zc(_c:CF)(_k:KV)(J:Ag1)(v_0 v_3:AV)(n_4:Int)(h:H):Prop:=
 fI (wrap .i64 (Bn n_4 (Int.ofNat 1))) fun n29=>
 J.a1 v_0 v_3 n29 h
def z127:Ag1:=⟨fun _ _=>False,fun _ _ _ _=>False,fun _ _ _ _=>False⟩
def Zl(c:CF)(k:KV)(m:Nat):Ag1:=Nat.rec z127 (fun _ J=>⟨Aey c k J,Zd c k J,Zc c k J⟩) m
def f127(J:Ag1):Jump:=fun L f h=>match L with
 |0=>J.a0 (f 0) h
 |1=>asI .i64 (f 4) fun n_4=>J.a1 (f 0) (f 3) n_4 h
 |2=>asI .i64 (f 4) fun n_4=>J.a2 (f 0) (f 3) n_4 h
 |_=>False
def Ax3:Bu:=[(.root,0),((.l (.r (.l (.r (.r .root))))),1),((.r (.r (.l (.l (.r (.l (.r (.r .root)))))))),2)]
def d128:Code:=Option.rec .skip (fun c=>c) Tryz.f128.body
def Ays:Aw:=[]
structure Ag0 where
 a0:Nat→Nat→H→Prop
 a1:Nat→Nat→AV→Int→H→Prop
 a2:Nat→Nat→AV→Int→H→Prop
def Aex(_c:CF)(_k:KV)(J:Ag0)(l_0 c_0:Nat)(h:H):Prop:=
 J.a1 l_0 c_0 .Ad (Int.ofNat 0) h
def Aew(c:CF)(k:KV)(J:Ag0)(l_0 c_0:Nat)(v_3:AV)(n_4:Int)(h:H):Prop:=
 cnd (Cs n_4 (Int.ofNat l_0))
 (fI (wrap .i64 (Bn n_4 (Int.ofNat 2))) fun n1=>
 An (fun k2=>gate true (Cs n1 (Int.ofNat l_0))
 (Ci n_4 fun m5=>
 Eb l_0 c_0 m5 fun m6=>
 k2 (Ba (Int.ofNat m6) (Int.ofNat 63)) h)
 (k2 false h)) fun b4 h3=>
 An (fun k7=>gate true b4
 (fI (wrap .i64 (Bn n_4 (Int.ofNat 1))) fun n10=>
 Ci n10 fun m11=>
 Eb l_0 c_0 m11 fun m12=>
 k7 (Ba (Int.ofNat m12) (Int.ofNat 63)) h3)
 (k7 false h3)) fun b9 h8=>
 cnd b9
 (fI (wrap .i64 (Bn n_4 (Int.ofNat 2))) fun n13=>
 Ci n13 fun m14=>
 Eb l_0 c_0 m14 fun m15=>
 c (.func 181) [(.int .u8 (Int.ofNat m15))] h8 fun v16 h17=>
 ext 0 v16 fun v18=>
 asI .u8 v18 fun n19=>
 ext 1 v16 fun v20=>
 asB v20 fun b21=>
 cnd b21
 (fI (wrap .i64 (Bn n_4 (Int.ofNat 3))) fun n22=>
 oK (Bp env (env.ty 174) [(0,(.int .u8 n19)),(1,(.int .i64 n_4)),(2,(.int .i64 n22))] h17) fun v23 h24=>
 oK (Ao env 171 (fun e ei=>Ak 1 [(0,v23)] h24 e ei)) fun v25 h26=>
 oK (Aq env .append [171,171] [v_3,v25] h26) fun v27 h28=>
 fI (wrap .i64 (Bn n_4 (Int.ofNat 3))) fun n29=>
 J.a1 l_0 c_0 v27 n29 h28)
 (J.a2 l_0 c_0 v_3 n_4 h17))
 (J.a2 l_0 c_0 v_3 n_4 h8))
 (k v_3 h)
def Aev(_c:CF)(_k:KV)(J:Ag0)(l_0 c_0:Nat)(v_3:AV)(n_4:Int)(h:H):Prop:=
 Ci n_4 fun m30=>
 Eb l_0 c_0 m30 fun m31=>
 fI (wrap .i64 (Bn n_4 (Int.ofNat 1))) fun n32=>
 oK (Bp env (env.ty 174) [(0,(.int .u8 (Int.ofNat m31))),(1,(.int .i64 n_4)),(2,(.int .i64 n32))] h) fun v33 h34=>
 oK (Ao env 171 (fun e ei=>Ak 1 [(0,v33)] h34 e ei)) fun v35 h36=>
 oK (Aq env .append [171,171] [v_3,v35] h36) fun v37 h38=>
 fI (wrap .i64 (Bn n_4 (Int.ofNat 1))) fun n39=>
 J.a1 l_0 c_0 v37 n39 h38
def Bhu:Ag0:=⟨fun _ _ _=>False,fun _ _ _ _ _=>False,fun _ _ _ _ _=>False⟩
def Zk(c:CF)(k:KV)(m:Nat):Ag0:=Nat.rec Bhu (fun _ J=>⟨Aex c k J,Aew c k J,Aev c k J⟩) m
def f128(J:Ag0):Jump:=fun L f h=>match L with
 |0=>asS (f 0) fun l_0 c_0=>J.a0 l_0 c_0 h
 |1=>asS (f 0) fun l_0 c_0=>asI .i64 (f 4) fun n_4=>J.a1 l_0 c_0 (f 3) n_4 h
 |2=>asS (f 0) fun l_0 c_0=>asI .i64 (f 4) fun n_4=>J.a2 l_0 c_0 (f 3) n_4 h
 |_=>False
def Ax2:Bu:=[(.root,0),((.l (.r (.l (.r (.r .root))))),1),((.r (.l (.r (.l (.l (.r (.l (.r (.r .root))))))))),2)]
def d129:Code:=Option.rec .skip (fun c=>c) Tryz.f129.body
def Bco:Aw:=[]
structure Axh where
 a0:AV→Int→H→Prop
def Aeu(_c:CF)(k:KV)(_J:Axh)(v_0:AV)(n_1:Int)(h:H):Prop:=
 An (fun k1=>gate false (Cs n_1 (Int.ofNat 0))
 (Ef v_0 fun m4=>
 k1 (Ex (Int.ofNat m4) n_1) h)
 (k1 true h)) fun b3 h2=>
 cnd b3
 (k (.int .u8 (Int.ofNat 0)) h2)
 (Ci n_1 fun m5=>
 Bz 3 m5 v_0 fun v6=>
 Am 0 v6 fun v7=>
 ld1 v7 h2 fun v8=>
 asI .u8 v8 fun n9=>
 k (.int .u8 n9) h2)
def Bht:Axh:=⟨fun _ _ _=>False⟩
def Asg(c:CF)(k:KV)(m:Nat):Axh:=Nat.rec Bht (fun _ J=>⟨Aeu c k J⟩) m
def f129(J:Axh):Jump:=fun L f h=>match L with
 |0=>asI .i64 (f 1) fun n_1=>J.a0 (f 0) n_1 h
 |_=>False
def Bbg:Bu:=[(.root,0)]
def d130:Code:=Option.rec .skip (fun c=>c) Tryz.f130.body
def Bcn:Aw:=[]
structure Axg where
 a0:AV→Int→H→Prop
def Aet(c:CF)(k:KV)(_J:Axg)(v_0:AV)(n_1:Int)(h:H):Prop:=
 c (.func 129) [v_0,(.int .i64 n_1)] h fun v1 h2=>
 asI .u8 v1 fun n3=>
 An (fun k4=>gate false (Ba n3 (Int.ofNat 34))
 (k4 (Ba n3 (Int.ofNat 39)) h2)
 (k4 true h2)) fun b6 h5=>
 cnd b6
 (k (.int .i64 (Int.ofNat 0)) h5)
 (An (fun k7=>gate true (Ba n3 (Int.ofNat 117))
 (fI (wrap .i64 (Bn n_1 (Int.ofNat 1))) fun n10=>
 c (.func 129) [v_0,(.int .i64 n10)] h5 fun v11 h12=>
 asI .u8 v11 fun n13=>
 k7 (Ba n13 (Int.ofNat 56)) h12)
 (k7 false h5)) fun b9 h8=>
 An (fun k14=>gate true b9
 (fI (wrap .i64 (Bn n_1 (Int.ofNat 2))) fun n17=>
 c (.func 129) [v_0,(.int .i64 n17)] h8 fun v18 h19=>
 asI .u8 v18 fun n20=>
 k14 (Ba n20 (Int.ofNat 34)) h19)
 (k14 false h8)) fun b16 h15=>
 cnd b16
 (k (.int .i64 (Int.ofNat 2)) h15)
 (An (fun k21=>gate false (Ba n3 (Int.ofNat 76))
 (k21 (Ba n3 (Int.ofNat 117)) h15)
 (k21 true h15)) fun b23 h22=>
 An (fun k24=>gate false b23
 (k24 (Ba n3 (Int.ofNat 85)) h22)
 (k24 true h22)) fun b26 h25=>
 An (fun k27=>gate true b26
 (fI (wrap .i64 (Bn n_1 (Int.ofNat 1))) fun n30=>
 c (.func 129) [v_0,(.int .i64 n30)] h25 fun v31 h32=>
 asI .u8 v31 fun n33=>
 An (fun k34=>gate false (Ba n33 (Int.ofNat 34))
 (fI (wrap .i64 (Bn n_1 (Int.ofNat 1))) fun n37=>
 c (.func 129) [v_0,(.int .i64 n37)] h32 fun v38 h39=>
 asI .u8 v38 fun n40=>
 k34 (Ba n40 (Int.ofNat 39)) h39)
 (k34 true h32)) fun b36 h35=>
 k27 b36 h35)
 (k27 false h25)) fun b29 h28=>
 cnd b29
 (k (.int .i64 (Int.ofNat 1)) h28)
 (k (.int .i64 (Int.negSucc 0)) h28)))
def z130:Axg:=⟨fun _ _ _=>False⟩
def Asf(c:CF)(k:KV)(m:Nat):Axg:=Nat.rec z130 (fun _ J=>⟨Aet c k J⟩) m
def f130(J:Axg):Jump:=fun L f h=>match L with
 |0=>asI .i64 (f 1) fun n_1=>J.a0 (f 0) n_1 h
 |_=>False
def Bbf:Bu:=[(.root,0)]
def d131:Code:=Option.rec .skip (fun c=>c) Tryz.f131.body
def Ayr:Aw:=[]
structure Agz where
 a0:AV→Int→H→Prop
 a1:AV→Int→Int→H→Prop
 a2:AV→Int→Int→H→Prop
def Aes(c:CF)(_k:KV)(J:Agz)(v_0:AV)(n_1:Int)(h:H):Prop:=
 c (.func 129) [v_0,(.int .i64 n_1)] h fun v1 h2=>
 asI .u8 v1 fun n3=>
 fI (wrap .i64 (Bn n_1 (Int.ofNat 1))) fun n4=>
 J.a1 v_0 n3 n4 h2
def Aer(_c:CF)(k:KV)(J:Agz)(v_0:AV)(n_5 n_6:Int)(h:H):Prop:=
 Ef v_0 fun m5=>
 An (fun k6=>gate true (Cs n_6 (Int.ofNat m5))
 (Ci n_6 fun m9=>
 Bz 3 m9 v_0 fun v10=>
 Am 0 v10 fun v11=>
 ld1 v11 h fun v12=>
 asI .u8 v12 fun n13=>
 k6 (Da (Ba n13 (Int.ofNat 10))) h)
 (k6 false h)) fun b8 h7=>
 cnd b8
 (Ci n_6 fun m14=>
 Bz 3 m14 v_0 fun v15=>
 Am 0 v15 fun v16=>
 ld1 v16 h7 fun v17=>
 asI .u8 v17 fun n18=>
 An (fun k19=>gate true (Ba n18 (Int.ofNat 92))
 (fI (wrap .i64 (Bn n_6 (Int.ofNat 1))) fun n22=>
 Ef v_0 fun m23=>
 k19 (Cs n22 (Int.ofNat m23)) h7)
 (k19 false h7)) fun b21 h20=>
 An (fun k24=>gate true b21
 (fI (wrap .i64 (Bn n_6 (Int.ofNat 1))) fun n27=>
 Ci n27 fun m28=>
 Bz 3 m28 v_0 fun v29=>
 Am 0 v29 fun v30=>
 ld1 v30 h20 fun v31=>
 asI .u8 v31 fun n32=>
 k24 (Da (Ba n32 (Int.ofNat 10))) h20)
 (k24 false h20)) fun b26 h25=>
 cnd b26
 (fI (wrap .i64 (Bn n_6 (Int.ofNat 1))) fun n33=>
 J.a2 v_0 n_5 n33 h25)
 (Ci n_6 fun m34=>
 Bz 3 m34 v_0 fun v35=>
 Am 0 v35 fun v36=>
 ld1 v36 h25 fun v37=>
 asI .u8 v37 fun n38=>
 cnd (Ba n38 n_5)
 (fI (wrap .i64 (Bn n_6 (Int.ofNat 1))) fun n39=>
 k (.int .i64 n39) h25)
 (J.a2 v_0 n_5 n_6 h25)))
 (k (.int .i64 (Int.ofNat 0)) h7)
def Zb(_c:CF)(_k:KV)(J:Agz)(v_0:AV)(n_5 n_6:Int)(h:H):Prop:=
 fI (wrap .i64 (Bn n_6 (Int.ofNat 1))) fun n40=>
 J.a1 v_0 n_5 n40 h
def z131:Agz:=⟨fun _ _ _=>False,fun _ _ _ _=>False,fun _ _ _ _=>False⟩
def Zj(c:CF)(k:KV)(m:Nat):Agz:=Nat.rec z131 (fun _ J=>⟨Aes c k J,Aer c k J,Zb c k J⟩) m
def f131(J:Agz):Jump:=fun L f h=>match L with
 |0=>asI .i64 (f 1) fun n_1=>J.a0 (f 0) n_1 h
 |1=>asI .u8 (f 5) fun n_5=>asI .i64 (f 6) fun n_6=>J.a1 (f 0) n_5 n_6 h
 |2=>asI .u8 (f 5) fun n_5=>asI .i64 (f 6) fun n_6=>J.a2 (f 0) n_5 n_6 h
 |_=>False
def Ax1:Bu:=[(.root,0),((.l (.r (.l (.r (.r .root))))),1),((.r (.r (.l (.l (.r (.l (.r (.r .root)))))))),2)]
def d132:Code:=Option.rec .skip (fun c=>c) Tryz.f132.body
def Bcm:Aw:=[]
structure Axf where
 a0:Int→H→Prop
def Aeq(_c:CF)(k:KV)(_J:Axf)(n_0:Int)(h:H):Prop:=
 An (fun k1=>gate true (Ex (Int.ofNat 97) n_0)
 (k1 (Ex n_0 (Int.ofNat 122)) h)
 (k1 false h)) fun b3 h2=>
 An (fun k4=>gate false b3
 (An (fun k7=>gate true (Ex (Int.ofNat 65) n_0)
 (k7 (Ex n_0 (Int.ofNat 90)) h2)
 (k7 false h2)) fun b9 h8=>
 k4 b9 h8)
 (k4 true h2)) fun b6 h5=>
 An (fun k10=>gate false b6
 (k10 (Ba n_0 (Int.ofNat 95)) h5)
 (k10 true h5)) fun b12 h11=>
 k (.bool b12) h11
def Bhs:Axf:=⟨fun _ _=>False⟩
def Ase(c:CF)(k:KV)(m:Nat):Axf:=Nat.rec Bhs (fun _ J=>⟨Aeq c k J⟩) m
def f132(J:Axf):Jump:=fun L f h=>match L with
 |0=>asI .u8 (f 0) fun n_0=>J.a0 n_0 h
 |_=>False
def Bbe:Bu:=[(.root,0)]
def d133:Code:=Option.rec .skip (fun c=>c) Tryz.f133.body
def Bcl:Aw:=[]
structure Axe where
 a0:Int→H→Prop
def Aep(_c:CF)(k:KV)(_J:Axe)(n_0:Int)(h:H):Prop:=
 An (fun k1=>gate true (Ex (Int.ofNat 48) n_0)
 (k1 (Ex n_0 (Int.ofNat 57)) h)
 (k1 false h)) fun b3 h2=>
 k (.bool b3) h2
def Bhr:Axe:=⟨fun _ _=>False⟩
def Asd(c:CF)(k:KV)(m:Nat):Axe:=Nat.rec Bhr (fun _ J=>⟨Aep c k J⟩) m
def f133(J:Axe):Jump:=fun L f h=>match L with
 |0=>asI .u8 (f 0) fun n_0=>J.a0 n_0 h
 |_=>False
def Bbd:Bu:=[(.root,0)]
def d134:Code:=Option.rec .skip (fun c=>c) Tryz.f134.body
def A3y:Aw:=[]
structure Ami where
 a0:AV→Int→H→Prop
 a1:AV→Int→H→Prop
def Aeo(c:CF)(k:KV)(J:Ami)(v_0:AV)(n_1:Int)(h:H):Prop:=
 c (.func 129) [v_0,(.int .i64 n_1)] h fun v1 h2=>
 asI .u8 v1 fun n3=>
 c (.func 133) [(.int .u8 n3)] h2 fun v4 h5=>
 asB v4 fun b6=>
 An (fun k7=>gate true (Da b6)
 (c (.func 129) [v_0,(.int .i64 n_1)] h5 fun v10 h11=>
 asI .u8 v10 fun n12=>
 An (fun k13=>gate false (Da (Ba n12 (Int.ofNat 46)))
 (fI (wrap .i64 (Bn n_1 (Int.ofNat 1))) fun n16=>
 c (.func 129) [v_0,(.int .i64 n16)] h11 fun v17 h18=>
 asI .u8 v17 fun n19=>
 c (.func 133) [(.int .u8 n19)] h18 fun v20 h21=>
 asB v20 fun b22=>
 k13 (Da b22) h21)
 (k13 true h11)) fun b15 h14=>
 k7 b15 h14)
 (k7 false h5)) fun b9 h8=>
 cnd b9
 (k (.int .i64 n_1) h8)
 (fI (wrap .i64 (Bn n_1 (Int.ofNat 1))) fun n23=>
 J.a1 v_0 n23 h8)
def Aen(c:CF)(k:KV)(J:Ami)(v_0:AV)(n_5:Int)(h:H):Prop:=
 c (.func 129) [v_0,(.int .i64 n_5)] h fun v24 h25=>
 asI .u8 v24 fun n26=>
 fI (wrap .i64 (Bn n_5 (Int.ofNat 1))) fun n27=>
 c (.func 129) [v_0,(.int .i64 n27)] h25 fun v28 h29=>
 asI .u8 v28 fun n30=>
 An (fun k31=>gate false (Ba n26 (Int.ofNat 101))
 (k31 (Ba n26 (Int.ofNat 69)) h29)
 (k31 true h29)) fun b33 h32=>
 An (fun k34=>gate false b33
 (k34 (Ba n26 (Int.ofNat 112)) h32)
 (k34 true h32)) fun b36 h35=>
 An (fun k37=>gate false b36
 (k37 (Ba n26 (Int.ofNat 80)) h35)
 (k37 true h35)) fun b39 h38=>
 An (fun k40=>gate true b39
 (An (fun k43=>gate false (Ba n30 (Int.ofNat 43))
 (k43 (Ba n30 (Int.ofNat 45)) h38)
 (k43 true h38)) fun b45 h44=>
 k40 b45 h44)
 (k40 false h38)) fun b42 h41=>
 cnd b42
 (fI (wrap .i64 (Bn n_5 (Int.ofNat 2))) fun n46=>
 J.a1 v_0 n46 h41)
 (c (.func 132) [(.int .u8 n26)] h41 fun v47 h48=>
 asB v47 fun b49=>
 An (fun k50=>gate false b49
 (c (.func 133) [(.int .u8 n26)] h48 fun v53 h54=>
 asB v53 fun b55=>
 k50 b55 h54)
 (k50 true h48)) fun b52 h51=>
 An (fun k56=>gate false b52
 (k56 (Ba n26 (Int.ofNat 46)) h51)
 (k56 true h51)) fun b58 h57=>
 cnd b58
 (fI (wrap .i64 (Bn n_5 (Int.ofNat 1))) fun n59=>
 J.a1 v_0 n59 h57)
 (k (.int .i64 n_5) h57))
def Bhq:Ami:=⟨fun _ _ _=>False,fun _ _ _=>False⟩
def Ahv(c:CF)(k:KV)(m:Nat):Ami:=Nat.rec Bhq (fun _ J=>⟨Aeo c k J,Aen c k J⟩) m
def f134(J:Ami):Jump:=fun L f h=>match L with
 |0=>asI .i64 (f 1) fun n_1=>J.a0 (f 0) n_1 h
 |1=>asI .i64 (f 5) fun n_5=>J.a1 (f 0) n_5 h
 |_=>False
def A26:Bu:=[(.root,0),((.l (.r (.r (.r .root)))),1)]
def d135:Code:=Option.rec .skip (fun c=>c) Tryz.f135.body
def Ayq:Aw:=[(6,[0,1,2,3,4,5,6,7,8,9,10,11,13,14,15,16,17,18,12,19,20])]
structure Agy where
 a0:AV→Int→H→Prop
 a1:AV→Int→AV→Int→H→Prop
 a2:AV→Int→AV→Int→Int→H→Prop
def Aem(c:CF)(_k:KV)(J:Agy)(v_0:AV)(n_1:Int)(h:H):Prop:=
 c (.func 182) [] h fun v1 h2=>
 J.a1 v_0 n_1 v1 (Int.ofNat 0) h2
def Ael(_c:CF)(k:KV)(J:Agy)(v_0:AV)(n_1:Int)(v_5:AV)(n_6:Int)(h:H):Prop:=
 Ef v_5 fun m3=>
 cnd (Cs n_6 (Int.ofNat m3))
 (J.a2 v_0 n_1 v_5 n_6 (Int.ofNat 0) h)
 (k (.int .i64 (Int.ofNat 0)) h)
def Aek(c:CF)(k:KV)(J:Agy)(v_0:AV)(n_1:Int)(v_5:AV)(n_6 n_7:Int)(h:H):Prop:=
 Ci n_6 fun m4=>
 Bz 1 m4 v_5 fun v5=>
 ld1 v5 h fun v6=>
 asS v6 fun l7 _=>
 An (fun k9=>gate true (Cs n_7 (Int.ofNat l7))
 (fI (wrap .i64 (Bn n_1 n_7)) fun n12=>
 Ci n_6 fun m13=>
 Bz 1 m13 v_5 fun v14=>
 ld1 v14 h fun v15=>
 asS v15 fun l16 c17=>
 Ci n_7 fun m18=>
 Eb l16 c17 m18 fun m19=>
 c (.func 129) [v_0,(.int .i64 n12)] h fun v20 h21=>
 asI .u8 v20 fun n22=>
 ld1 v14 h21 fun v23=>
 asS v23 fun l24 c25=>
 eqC (.str l24 c25) (.str l16 c17)<|
 k9 (Ba n22 (Int.ofNat m19)) h21)
 (k9 false h)) fun b11 h10=>
 cnd b11
 (fI (wrap .i64 (Bn n_7 (Int.ofNat 1))) fun n26=>
 J.a2 v_0 n_1 v_5 n_6 n26 h10)
 (Ci n_6 fun m27=>
 Bz 1 m27 v_5 fun v28=>
 ld1 v28 h10 fun v29=>
 asS v29 fun l30 _=>
 cnd (Ba n_7 (Int.ofNat l30))
 (k (.int .i64 n_7) h10)
 (fI (wrap .i64 (Bn n_6 (Int.ofNat 1))) fun n32=>
 J.a1 v_0 n_1 v_5 n32 h10))
def Bhp:Agy:=⟨fun _ _ _=>False,fun _ _ _ _ _=>False,fun _ _ _ _ _ _=>False⟩
def Zi(c:CF)(k:KV)(m:Nat):Agy:=Nat.rec Bhp (fun _ J=>⟨Aem c k J,Ael c k J,Aek c k J⟩) m
def f135(J:Agy):Jump:=fun L f h=>match L with
 |0=>asI .i64 (f 1) fun n_1=>J.a0 (f 0) n_1 h
 |1=>asI .i64 (f 1) fun n_1=>asI .i64 (f 6) fun n_6=>J.a1 (f 0) n_1 (f 5) n_6 h
 |2=>asI .i64 (f 1) fun n_1=>asI .i64 (f 6) fun n_6=>asI .i64 (f 7) fun n_7=>J.a2 (f 0) n_1 (f 5) n_6 n_7 h
 |_=>False
def Ax0:Bu:=[(.root,0),((.l (.r (.l (.r (.r .root))))),1),((.l (.l (.r (.l (.l (.r (.l (.l (.r (.l (.r (.r .root)))))))))))),2)]
def d136:Code:=Option.rec .skip (fun c=>c) Tryz.f136.body
def Bck:Aw:=[]
structure Axd where
 a0:AV→Nat→Nat→H→Prop
def Aej(_c:CF)(k:KV)(_J:Axd)(v_0:AV)(l_1 c_1:Nat)(h:H):Prop:=
 asG v_0 fun g1=>
 chk (Nat.ble 1 (len g1))<|
 Hp.Fx h (rowOf 43 g1) fun p2 h3=>
 Am 0 (.ptr p2 0) fun v4=>
 ld1 v4 h3 fun v5=>
 asI .i64 v5 fun n6=>
 An (fun k7=>gate true (Ba n6 (Int.ofNat 5))
 (Am 1 (.ptr p2 0) fun v10=>
 ld1 v10 h3 fun v11=>
 asS v11 fun l12 c13=>
 k7 (Bm l12 c13 l_1 c_1) h3)
 (k7 false h3)) fun b9 h8=>
 k (.bool b9) h8
def Bho:Axd:=⟨fun _ _ _ _=>False⟩
def Asc(c:CF)(k:KV)(m:Nat):Axd:=Nat.rec Bho (fun _ J=>⟨Aej c k J⟩) m
def f136(J:Axd):Jump:=fun L f h=>match L with
 |0=>asS (f 1) fun l_1 c_1=>J.a0 (f 0) l_1 c_1 h
 |_=>False
def Bbc:Bu:=[(.root,0)]
def d160:Code:=Option.rec .skip (fun c=>c) Tryz.f160.body
def Bcj:Aw:=[]
structure Axc where
 a0:Nat→Nat→Int→H→Prop
def Aei(c:CF)(k:KV)(_J:Axc)(l_0 c_0:Nat)(n_1:Int)(h:H):Prop:=
 c (.func 207) [(.str l_0 c_0),(.int .u8 n_1)] h fun v1 h2=>
 asI .i64 v1 fun n3=>
 k (.int .i64 n3) h2
def z160:Axc:=⟨fun _ _ _ _=>False⟩
def Asb(c:CF)(k:KV)(m:Nat):Axc:=Nat.rec z160 (fun _ J=>⟨Aei c k J⟩) m
def f160(J:Axc):Jump:=fun L f h=>match L with
 |0=>asS (f 0) fun l_0 c_0=>asI .u8 (f 1) fun n_1=>J.a0 l_0 c_0 n_1 h
 |_=>False
def Bbb:Bu:=[(.root,0)]
def d161:Code:=Option.rec .skip (fun c=>c) Tryz.f161.body
def Akp:Aw:=[]
structure Tg where
 a0:Nat→Nat→H→Prop
 a1:Nat→Nat→Bool→Bool→Int→H→Prop
 a2:Nat→Nat→AV→Int→Int→H→Prop
 a3:Nat→Nat→AV→Int→Int→H→Prop
 a4:Nat→Nat→AV→Int→Int→H→Prop
 a5:Nat→Nat→Bool→Bool→H→Prop
def Aeh(_c:CF)(_k:KV)(J:Tg)(l_0 c_0:Nat)(h:H):Prop:=
 J.a1 l_0 c_0 true false (Int.ofNat 0) h
def Aeg(_c:CF)(_k:KV)(J:Tg)(l_0 c_0:Nat)(b_3 b_4:Bool)(n_5:Int)(h:H):Prop:=
 cnd (Cs n_5 (Int.ofNat l_0))
 (Ci n_5 fun m1=>
 Eb l_0 c_0 m1 fun m2=>
 cnd (Ex (Int.ofNat 128) (Int.ofNat m2))
 (J.a5 l_0 c_0 false b_4 h)
 (An (fun k3=>gate false b_4
 (An (fun k6=>gate true (Ex (Int.ofNat 65) (Int.ofNat m2))
 (k6 (Ex (Int.ofNat m2) (Int.ofNat 90)) h)
 (k6 false h)) fun b8 h7=>
 k3 b8 h7)
 (k3 true h)) fun b5 h4=>
 fI (wrap .i64 (Bn n_5 (Int.ofNat 1))) fun n9=>
 J.a1 l_0 c_0 b_3 b5 n9 h4))
 (J.a5 l_0 c_0 b_3 b_4 h)
def Aef(c:CF)(k:KV)(J:Tg)(l_0 c_0:Nat)(v_7:AV)(n_8 n_9:Int)(h:H):Prop:=
 cnd (Cs n_9 (Int.ofNat l_0))
 (Ci n_9 fun m10=>
 Eb l_0 c_0 m10 fun m11=>
 An (fun k12=>gate true (Ex (Int.ofNat 65) (Int.ofNat m11))
 (k12 (Ex (Int.ofNat m11) (Int.ofNat 90)) h)
 (k12 false h)) fun b14 h13=>
 cnd b14
 (fI (wrap .u8 (Bn (Int.ofNat m11) (Int.ofNat 32))) fun n15=>
 cnd (Cs n_8 n_9)
 (Ci n_9 fun m16=>
 Ci n_8 fun m17=>
 Ge l_0 c_0 m17 m16 fun l18 c19=>
 c (.func 61) [v_7,(.str l18 c19)] h13 fun _ h21=>
 J.a3 l_0 c_0 v_7 n_9 n15 h21)
 (J.a3 l_0 c_0 v_7 n_9 n15 h13))
 (J.a4 l_0 c_0 v_7 n_8 n_9 h13))
 (cnd (Cs n_8 (Int.ofNat l_0))
 (Ci n_8 fun m22=>
 Ge l_0 c_0 m22 l_0 fun l23 c24=>
 c (.func 61) [v_7,(.str l23 c24)] h fun _ h26=>
 c (.func 63) [v_7] h26 fun v27 h28=>
 asS v27 fun l29 c30=>
 k (.str l29 c30) h28)
 (c (.func 63) [v_7] h fun v31 h32=>
 asS v31 fun l33 c34=>
 k (.str l33 c34) h32))
def Aee(c:CF)(_k:KV)(J:Tg)(l_0 c_0:Nat)(v_7:AV)(n_9 n_10:Int)(h:H):Prop:=
 c (.func 107) [v_7,(.int .u8 n_10)] h fun _ h36=>
 fI (wrap .i64 (Bn n_9 (Int.ofNat 1))) fun n37=>
 J.a4 l_0 c_0 v_7 n37 n_9 h36
def Za(_c:CF)(_k:KV)(J:Tg)(l_0 c_0:Nat)(v_7:AV)(n_8 n_9:Int)(h:H):Prop:=
 fI (wrap .i64 (Bn n_9 (Int.ofNat 1))) fun n38=>
 J.a2 l_0 c_0 v_7 n_8 n38 h
def Aed(c:CF)(k:KV)(J:Tg)(l_0 c_0:Nat)(b_3 b_4:Bool)(h:H):Prop:=
 cnd b_3
 (cnd (Da b_4)
 (k (.str l_0 c_0) h)
 (Hp.Fx h Wr fun p39 h40=>
 c (.func 208) [(.ptr p39 0),(.int .i64 (Int.ofNat l_0))] h40 fun _ h42=>
 J.a2 l_0 c_0 (.ptr p39 0) (Int.ofNat 0) (Int.ofNat 0) h42))
 (c (.func 209) [(.func (.func 210) [] []),(.str l_0 c_0)] h fun v43 h44=>
 asS v43 fun l45 c46=>
 k (.str l45 c46) h44)
def Bhn:Tg:=⟨fun _ _ _=>False,fun _ _ _ _ _ _=>False,fun _ _ _ _ _ _=>False,fun _ _ _ _ _ _=>False,fun _ _ _ _ _ _=>False,fun _ _ _ _ _=>False⟩
def Ng(c:CF)(k:KV)(m:Nat):Tg:=Nat.rec Bhn (fun _ J=>⟨Aeh c k J,Aeg c k J,Aef c k J,Aee c k J,Za c k J,Aed c k J⟩) m
def f161(J:Tg):Jump:=fun L f h=>match L with
 |0=>asS (f 0) fun l_0 c_0=>J.a0 l_0 c_0 h
 |1=>asS (f 0) fun l_0 c_0=>asB (f 3) fun b_3=>asB (f 4) fun b_4=>asI .i64 (f 5) fun n_5=>J.a1 l_0 c_0 b_3 b_4 n_5 h
 |2=>asS (f 0) fun l_0 c_0=>asI .i64 (f 8) fun n_8=>asI .i64 (f 9) fun n_9=>J.a2 l_0 c_0 (f 7) n_8 n_9 h
 |3=>asS (f 0) fun l_0 c_0=>asI .i64 (f 9) fun n_9=>asI .u8 (f 10) fun n_10=>J.a3 l_0 c_0 (f 7) n_9 n_10 h
 |4=>asS (f 0) fun l_0 c_0=>asI .i64 (f 8) fun n_8=>asI .i64 (f 9) fun n_9=>J.a4 l_0 c_0 (f 7) n_8 n_9 h
 |5=>asS (f 0) fun l_0 c_0=>asB (f 3) fun b_3=>asB (f 4) fun b_4=>J.a5 l_0 c_0 b_3 b_4 h
 |_=>False
def Aj5:Bu:=[(.root,0),((.l (.r (.l (.r (.r .root))))),1),((.l (.r (.l (.r (.r (.r (.r (.l (.r (.l (.r (.r (.r .root))))))))))))),2),((.r (.r (.l (.r (.r (.l (.l (.r (.l (.l (.r (.l (.r (.r (.r (.r (.l (.r (.l (.r (.r (.r .root)))))))))))))))))))))),3),((.r (.r (.l (.l (.r (.l (.r (.r (.r (.r (.l (.r (.l (.r (.r (.r .root)))))))))))))))),4),((.r (.r (.r .root))),5)]
def d162:Code:=Option.rec .skip (fun c=>c) Tryz.f162.body
def Bci:Aw:=[(6,[0,1,2,3,4,5,6]),(7,[0,1,2,3,4,5,6,7,8]),(14,[0,1,2,3,4,5,6,7,8,9,10]),(31,[0,1,2,3,4,5,6,7,8,9,10])]
structure Axb where
 a0:Nat→Nat→Int→H→Prop
def Aec(c:CF)(k:KV)(_J:Axb)(l_0 c_0:Nat)(n_1:Int)(h:H):Prop:=
 An (fun k1=>gate true (Ex (Int.ofNat 0) n_1)
 (k1 (Cs n_1 (Int.ofNat 128)) h)
 (k1 false h)) fun b3 h2=>
 cnd b3
 (fI (wrap .u8 n_1) fun n4=>
 c (.func 160) [(.str l_0 c_0),(.int .u8 n4)] h2 fun v5 h6=>
 asI .i64 v5 fun n7=>
 k (.int .i64 n7) h6)
 (cnd (Ba n_1 (Int.ofNat 65533))
 (oK (Nz env 9 (.str l_0 c_0) h2) fun _ _=>
 False)
 (c (.func 211) [(.int .i32 n_1)] h2 fun v10 h11=>
 asB v10 fun b12=>
 cnd (Da b12)
 (k (.int .i64 (Int.negSucc 0)) h11)
 (oK (Gh env h11 21 9 (.int .i32 n_1)) fun v13 _=>
 asS v13 fun l15 _=>
 fI (wrap .i64 (Jj (Int.ofNat l15) (Int.ofNat 1))) fun _=>
 False)))
def z162:Axb:=⟨fun _ _ _ _=>False⟩
def Asa(c:CF)(k:KV)(m:Nat):Axb:=Nat.rec z162 (fun _ J=>⟨Aec c k J⟩) m
def f162(J:Axb):Jump:=fun L f h=>match L with
 |0=>asS (f 0) fun l_0 c_0=>asI .i32 (f 1) fun n_1=>J.a0 l_0 c_0 n_1 h
 |_=>False
def Bba:Bu:=[(.root,0),((.l (.r (.l (.l (.r (.r (.r (.l (.r .root))))))))),1),((.l (.l (.r (.r (.r (.r (.l (.r (.r (.r (.r (.r (.r (.l (.r .root))))))))))))))),2),((.l (.r (.l (.r (.l (.l (.r (.l (.l (.l (.r (.r (.r (.r (.l (.r (.r (.r (.r (.r (.r (.l (.r .root))))))))))))))))))))))),3),((.r (.l (.l (.r (.l (.l (.l (.r (.r (.r (.r (.l (.r (.r (.r (.r (.r (.r (.l (.r .root)))))))))))))))))))),4),((.lab (.l (.r (.l (.l (.l (.r (.r (.r (.r (.l (.r (.r (.r (.r (.r (.r (.l (.r .root)))))))))))))))))) 0),5),((.l (.r (.r (.r (.l (.r (.l (.r (.r (.r (.r (.r (.r (.r (.l (.r (.r (.r (.r (.r (.r (.l (.r .root))))))))))))))))))))))),6),((.l (.r (.l (.l (.r (.l (.l (.r (.l (.l (.r (.r (.r (.l (.r (.l (.r (.r (.r (.r (.r (.r (.r (.l (.r (.r (.r (.r (.r (.r (.l (.r .root)))))))))))))))))))))))))))))))),7),((.r (.r (.l (.l (.r (.r (.r (.l (.r (.l (.r (.r (.r (.r (.r (.r (.r (.l (.r (.r (.r (.r (.r (.r (.l (.r .root)))))))))))))))))))))))))),8),((.lab (.r (.l (.r (.r (.r (.r (.r (.r (.r (.l (.r (.r (.r (.r (.r (.r (.l (.r .root)))))))))))))))))) 2),9),((.l (.r (.lab (.r (.l (.r (.r (.r (.r (.r (.r (.r (.l (.r (.r (.r (.r (.r (.r (.l (.r .root)))))))))))))))))) 2))),10),((.l (.r (.l (.l (.r (.l (.l (.r (.l (.l (.r (.lab (.r (.l (.r (.r (.r (.r (.r (.r (.r (.l (.r (.r (.r (.r (.r (.r (.l (.r .root)))))))))))))))))) 2)))))))))))),11),((.r (.r (.l (.l (.r (.lab (.r (.l (.r (.r (.r (.r (.r (.r (.r (.l (.r (.r (.r (.r (.r (.r (.l (.r .root)))))))))))))))))) 2)))))),12),((.lab (.r (.r (.r (.r (.r (.r (.l (.r .root)))))))) 1),13),((.l (.r (.r (.r (.l (.r (.l (.r (.lab (.r (.r (.r (.r (.r (.r (.l (.r .root)))))))) 1))))))))),14),((.l (.r (.l (.l (.r (.l (.l (.r (.l (.l (.r (.r (.r (.l (.r (.l (.r (.lab (.r (.r (.r (.r (.r (.r (.l (.r .root)))))))) 1)))))))))))))))))),15),((.r (.r (.l (.l (.r (.r (.r (.l (.r (.l (.r (.lab (.r (.r (.r (.r (.r (.r (.l (.r .root)))))))) 1)))))))))))),16),((.lab (.r (.l (.r (.lab (.r (.r (.r (.r (.r (.r (.l (.r .root)))))))) 1)))) 2),17),((.l (.r (.lab (.r (.l (.r (.lab (.r (.r (.r (.r (.r (.r (.l (.r .root)))))))) 1)))) 2))),18),((.l (.r (.l (.l (.r (.l (.l (.r (.l (.l (.r (.lab (.r (.l (.r (.lab (.r (.r (.r (.r (.r (.r (.l (.r .root)))))))) 1)))) 2)))))))))))),19),((.r (.r (.l (.l (.r (.lab (.r (.l (.r (.lab (.r (.r (.r (.r (.r (.r (.l (.r .root)))))))) 1)))) 2)))))),20),((.r (.l (.l (.r (.r (.r (.r (.r (.r (.r (.l (.r (.r (.r (.r (.r (.r (.l (.r .root))))))))))))))))))),21),((.r (.r (.l (.r (.l (.r (.r (.r (.r (.r (.r (.r (.l (.r (.r (.r (.r (.r (.r (.l (.r .root))))))))))))))))))))),22)]
def d163:Code:=Option.rec .skip (fun c=>c) Tryz.f163.body
def Bch:Aw:=[]
structure Axa where
 a0:Nat→Nat→Nat→Nat→H→Prop
def Aeb(c:CF)(k:KV)(_J:Axa)(l_0 c_0:Nat)(l_1 c_1:Nat)(h:H):Prop:=
 c (.func 171) [(.str l_0 c_0),(.str l_1 c_1)] h fun v1 h2=>
 asB v1 fun b3=>
 cnd (Da b3)
 (k (.tuple [(.str l_0 c_0),(.bool false)]) h2)
 (Ge l_0 c_0 l_1 l_0 fun l4 c5=>
 k (.tuple [(.str l4 c5),(.bool true)]) h2)
def Bhm:Axa:=⟨fun _ _ _ _ _=>False⟩
def Ar9(c:CF)(k:KV)(m:Nat):Axa:=Nat.rec Bhm (fun _ J=>⟨Aeb c k J⟩) m
def f163(J:Axa):Jump:=fun L f h=>match L with
 |0=>asS (f 0) fun l_0 c_0=>asS (f 1) fun l_1 c_1=>J.a0 l_0 c_0 l_1 c_1 h
 |_=>False
def Ba9:Bu:=[(.root,0)]
def d165:Code:=Option.rec .skip (fun c=>c) Tryz.f165.body
def A3x:Aw:=[]
def A25:Bu:=[(.root,0),((.r (.r .root)),1)]
def d166:Code:=Option.rec .skip (fun c=>c) Tryz.f166.body
def Bcg:Aw:=[]
structure Aw9 where
 a0:AV→Nat→Nat→H→Prop
def Aea(c:CF)(k:KV)(_J:Aw9)(v_0:AV)(l_1 c_1:Nat)(h:H):Prop:=
 oK (Ck v_0 h) fun v1 h2=>
 Am 0 v1 fun v3=>
 c (.func 74) [v3,(.func (.func 214) [v_0] [])] h2 fun _ h5=>
 oK (Ck v_0 h5) fun v6 h7=>
 Am 3 v6 fun v8=>
 ld1 v8 h7 fun v9=>
 inv2 env c v9 "Replace" [(.str l_1 c_1)] h7 fun v10 h11 =>
 asS v10 fun l12 c13=>
 k (.str l12 c13) h11
def Bhl:Aw9:=⟨fun _ _ _ _=>False⟩
def Ar8(c:CF)(k:KV)(m:Nat):Aw9:=Nat.rec Bhl (fun _ J=>⟨Aea c k J⟩) m
def f166(J:Aw9):Jump:=fun L f h=>match L with
 |0=>asS (f 1) fun l_1 c_1=>J.a0 (f 0) l_1 c_1 h
 |_=>False
def Ba8:Bu:=[(.root,0)]
def d168:Code:=Option.rec .skip (fun c=>c) Tryz.f168.body
def A3w:Aw:=[]
def A24:Bu:=[(.root,0),((.l (.r (.l (.r .root)))),1)]
def d169:Code:=Option.rec .skip (fun c=>c) Tryz.f169.body
def A3v:Aw:=[]
structure Amh where
 a0:Nat→Nat→AV→H→Prop
 a1:Nat→Nat→AV→H→Prop
def Ad9(_c:CF)(_k:KV)(J:Amh)(l_0 c_0:Nat)(v_1:AV)(h:H):Prop:=
 J.a1 l_0 c_0 v_1 h
def Ad8(c:CF)(k:KV)(J:Amh)(l_0 c_0:Nat)(v_1:AV)(h:H):Prop:=
 cnd (Cs (Int.ofNat 0) (Int.ofNat l_0))
 (fI (wrap .i64 (Jj (Int.ofNat l_0) (Int.ofNat 1))) fun n1=>
 Ci n1 fun m2=>
 Eb l_0 c_0 m2 fun m3=>
 c (.func 215) [v_1,(.int .u8 (Int.ofNat m3))] h fun v4 h5=>
 asB v4 fun b6=>
 cnd (Da b6)
 (k (.str l_0 c_0) h5)
 (fI (wrap .i64 (Jj (Int.ofNat l_0) (Int.ofNat 1))) fun n7=>
 Ci n7 fun m8=>
 Ge l_0 c_0 0 m8 fun l9 c10=>
 J.a1 l9 c10 v_1 h5))
 (k (.str l_0 c_0) h)
def Bhk:Amh:=⟨fun _ _ _ _=>False,fun _ _ _ _=>False⟩
def Ahu(c:CF)(k:KV)(m:Nat):Amh:=Nat.rec Bhk (fun _ J=>⟨Ad9 c k J,Ad8 c k J⟩) m
def f169(J:Amh):Jump:=fun L f h=>match L with
 |0=>asS (f 0) fun l_0 c_0=>J.a0 l_0 c_0 (f 1) h
 |1=>asS (f 0) fun l_0 c_0=>J.a1 l_0 c_0 (f 1) h
 |_=>False
def A23:Bu:=[(.root,0),((.l (.l (.r .root))),1)]
def d171:Code:=Option.rec .skip (fun c=>c) Tryz.f171.body
def Bcf:Aw:=[]
structure Aw8 where
 a0:Nat→Nat→Nat→Nat→H→Prop
def Ad7(_c:CF)(k:KV)(_J:Aw8)(l_0 c_0:Nat)(l_1 c_1:Nat)(h:H):Prop:=
 An (fun k1=>gate true (Ex (Int.ofNat l_1) (Int.ofNat l_0))
 (Ge l_0 c_0 0 l_1 fun l4 c5=>
 k1 (Bm l4 c5 l_1 c_1) h)
 (k1 false h)) fun b3 h2=>
 k (.bool b3) h2
def z171:Aw8:=⟨fun _ _ _ _ _=>False⟩
def Ar7(c:CF)(k:KV)(m:Nat):Aw8:=Nat.rec z171 (fun _ J=>⟨Ad7 c k J⟩) m
def f171(J:Aw8):Jump:=fun L f h=>match L with
 |0=>asS (f 0) fun l_0 c_0=>asS (f 1) fun l_1 c_1=>J.a0 l_0 c_0 l_1 c_1 h
 |_=>False
def Ba7:Bu:=[(.root,0)]
def d172:Code:=Option.rec .skip (fun c=>c) Tryz.f172.body
def Bce:Aw:=[]
structure Aw7 where
 a0:Nat→Nat→Nat→Nat→H→Prop
def Ad6(c:CF)(k:KV)(_J:Aw7)(l_0 c_0:Nat)(l_1 c_1:Nat)(h:H):Prop:=
 An (fun k1=>gate false (Bm l_0 c_0 0 0)
 (k1 (Bm l_1 c_1 0 0) h)
 (k1 true h)) fun b3 h2=>
 cnd b3
 (k (.str l_0 c_0) h2)
 (An (fun k4=>gate true (Ba (Int.ofNat l_1) (Int.ofNat 1))
 (Eb l_1 c_1 0 fun m7=>
 k4 (Cs (Int.ofNat m7) (Int.ofNat 128)) h2)
 (k4 false h2)) fun b6 h5=>
 cnd b6
 (Eb l_1 c_1 0 fun m8=>
 c (.func 218) [(.str l_0 c_0),(.int .u8 (Int.ofNat m8))] h5 fun v9 h10=>
 asS v9 fun l11 c12=>
 k (.str l11 c12) h10)
 (c (.func 168) [(.str l_1 c_1)] h5 fun v13 h14=>
 ext 0 v13 fun v15=>
 ext 1 v13 fun v16=>
 asB v16 fun b17=>
 Hp.Fx h14 A09 fun p18 h19=>
 stn 256 (.ptr p18 0) v15 h19 fun h20=>
 cnd b17
 (c (.func 219) [(.str l_0 c_0),(.ptr p18 0)] h20 fun v21 h22=>
 asS v21 fun l23 c24=>
 k (.str l23 c24) h22)
 (c (.func 220) [(.str l_0 c_0),(.str l_1 c_1)] h20 fun v25 h26=>
 asS v25 fun l27 c28=>
 k (.str l27 c28) h26)))
def Bhj:Aw7:=⟨fun _ _ _ _ _=>False⟩
def Ar6(c:CF)(k:KV)(m:Nat):Aw7:=Nat.rec Bhj (fun _ J=>⟨Ad6 c k J⟩) m
def f172(J:Aw7):Jump:=fun L f h=>match L with
 |0=>asS (f 0) fun l_0 c_0=>asS (f 1) fun l_1 c_1=>J.a0 l_0 c_0 l_1 c_1 h
 |_=>False
def Ba6:Bu:=[(.root,0)]
def d173:Code:=Option.rec .skip (fun c=>c) Tryz.f173.body
def Ako:Aw:=[]
structure Tf where
 a0:Nat→Nat→Int→Int→H→Prop
 a1:Int→Bool→Nat→Nat→Int→Int→Bool→Int→AV→Int→Int→H→Prop
 a2:Int→Bool→Nat→Nat→Int→Int→Bool→Int→Int→AV→Int→Int→H→Prop
 a3:Nat→Nat→Int→Int→Bool→Nat→Nat→Int→H→Prop
 a4:Nat→Nat→Int→Int→Bool→Nat→Nat→H→Prop
 a5:Nat→Nat→Int→Int→Bool→Nat→Nat→H→Prop
def Ad5(c:CF)(k:KV)(J:Tf)(l_0 c_0:Nat)(n_1 n_2:Int)(h:H):Prop:=
 cnd (Bm l_0 c_0 0 0)
 (k (.tuple [(.int .u64 (Int.ofNat 0)),(.iface 304 (.int .i64 (Int.ofNat 2)))]) h)
 (An (fun k1=>gate true (Ex (Int.ofNat 2) n_1)
 (k1 (Ex n_1 (Int.ofNat 36)) h)
 (k1 false h)) fun b3 h2=>
 cnd b3
 (J.a5 l_0 c_0 n_1 n_2 (Ba n_1 (Int.ofNat 0)) l_0 c_0 h2)
 (cnd (Ba n_1 (Int.ofNat 0))
 (Eb l_0 c_0 0 fun m4=>
 cnd (Ba (Int.ofNat m4) (Int.ofNat 48))
 (An (fun k5=>gate true (Ex (Int.ofNat 3) (Int.ofNat l_0))
 (Eb l_0 c_0 1 fun m8=>
 c (.func 221) [(.int .u8 (Int.ofNat m8))] h2 fun v9 h10=>
 asI .u8 v9 fun n11=>
 k5 (Ba n11 (Int.ofNat 98)) h10)
 (k5 false h2)) fun b7 h6=>
 cnd b7
 (Ge l_0 c_0 2 l_0 fun l12 c13=>
 J.a5 l12 c13 (Int.ofNat 2) n_2 (Ba n_1 (Int.ofNat 0)) l_0 c_0 h6)
 (An (fun k14=>gate true (Ex (Int.ofNat 3) (Int.ofNat l_0))
 (Eb l_0 c_0 1 fun m17=>
 c (.func 221) [(.int .u8 (Int.ofNat m17))] h6 fun v18 h19=>
 asI .u8 v18 fun n20=>
 k14 (Ba n20 (Int.ofNat 111)) h19)
 (k14 false h6)) fun b16 h15=>
 cnd b16
 (Ge l_0 c_0 2 l_0 fun l21 c22=>
 J.a5 l21 c22 (Int.ofNat 8) n_2 (Ba n_1 (Int.ofNat 0)) l_0 c_0 h15)
 (An (fun k23=>gate true (Ex (Int.ofNat 3) (Int.ofNat l_0))
 (Eb l_0 c_0 1 fun m26=>
 c (.func 221) [(.int .u8 (Int.ofNat m26))] h15 fun v27 h28=>
 asI .u8 v27 fun n29=>
 k23 (Ba n29 (Int.ofNat 120)) h28)
 (k23 false h15)) fun b25 h24=>
 cnd b25
 (Ge l_0 c_0 2 l_0 fun l30 c31=>
 J.a5 l30 c31 (Int.ofNat 16) n_2 (Ba n_1 (Int.ofNat 0)) l_0 c_0 h24)
 (Ge l_0 c_0 1 l_0 fun l32 c33=>
 J.a5 l32 c33 (Int.ofNat 8) n_2 (Ba n_1 (Int.ofNat 0)) l_0 c_0 h24))))
 (J.a5 l_0 c_0 (Int.ofNat 10) n_2 (Ba n_1 (Int.ofNat 0)) l_0 c_0 h2))
 (k (.tuple [(.int .u64 (Int.ofNat 0)),(.iface 304 (.int .i64 (Int.ofNat 3)))]) h2)))
def Ad4(c:CF)(k:KV)(J:Tf)(n_1:Int)(b_8:Bool)(l_9 c_9:Nat)(n_10 n_11:Int)(b_12:Bool)(n_13:Int)(v_99:AV)(n_100 n_101:Int)(h:H):Prop:=
 cnd (Cs n_101 n_100)
 (Ci n_101 fun m34=>
 Bz 1 m34 v_99 fun v35=>
 ld1 v35 h fun v36=>
 asI .u8 v36 fun n37=>
 An (fun k38=>gate true (Ba n37 (Int.ofNat 95))
 (k38 b_8 h)
 (k38 false h)) fun b40 h39=>
 cnd b40
 (fI (wrap .i64 (Bn n_101 (Int.ofNat 1))) fun n41=>
 J.a1 n_1 b_8 l_9 c_9 n_10 n_11 true n_13 v_99 n_100 n41 h39)
 (An (fun k42=>gate true (Ex (Int.ofNat 48) n37)
 (k42 (Ex n37 (Int.ofNat 57)) h39)
 (k42 false h39)) fun b44 h43=>
 cnd b44
 (fI (wrap .u8 (Jj n37 (Int.ofNat 48))) fun n45=>
 J.a2 n_1 b_8 l_9 c_9 n_10 n_11 b_12 n_13 n45 v_99 n_100 n_101 h43)
 (c (.func 221) [(.int .u8 n37)] h43 fun v46 h47=>
 asI .u8 v46 fun n48=>
 An (fun k49=>gate true (Ex (Int.ofNat 97) n48)
 (c (.func 221) [(.int .u8 n37)] h47 fun v52 h53=>
 asI .u8 v52 fun n54=>
 k49 (Ex n54 (Int.ofNat 122)) h53)
 (k49 false h47)) fun b51 h50=>
 cnd b51
 (c (.func 221) [(.int .u8 n37)] h50 fun v55 h56=>
 asI .u8 v55 fun n57=>
 fI (wrap .u8 (Jj n57 (Int.ofNat 97))) fun n58=>
 fI (wrap .u8 (Bn n58 (Int.ofNat 10))) fun n59=>
 J.a2 n_1 b_8 l_9 c_9 n_10 n_11 b_12 n_13 n59 v_99 n_100 n_101 h56)
 (k (.tuple [(.int .u64 (Int.ofNat 0)),(.iface 304 (.int .i64 (Int.ofNat 2)))]) h50))))
 (An (fun k60=>gate true b_12
 (c (.func 222) [(.str l_9 c_9)] h fun v63 h64=>
 asB v63 fun b65=>
 k60 (Da b65) h64)
 (k60 false h)) fun b62 h61=>
 cnd b62
 (k (.tuple [(.int .u64 (Int.ofNat 0)),(.iface 304 (.int .i64 (Int.ofNat 2)))]) h61)
 (k (.tuple [(.int .u64 n_13),.He]) h61))
def Ad3(_c:CF)(k:KV)(J:Tf)(n_1:Int)(b_8:Bool)(l_9 c_9:Nat)(n_10 n_11:Int)(b_12:Bool)(n_13 n_16:Int)(v_99:AV)(n_100 n_101:Int)(h:H):Prop:=
 fI (wrap .u8 n_1) fun n66=>
 cnd (Ex n66 n_16)
 (k (.tuple [(.int .u64 (Int.ofNat 0)),(.iface 304 (.int .i64 (Int.ofNat 2)))]) h)
 (cnd (Ex n_10 n_13)
 (k (.tuple [(.int .u64 n_11),(.iface 304 (.int .i64 (Int.ofNat 1)))]) h)
 (fI (wrap .u64 n_1) fun n67=>
 fI (wrap .u64 (n_13*n67)) fun n68=>
 fI (wrap .u64 n_16) fun n69=>
 fI (wrap .u64 (Bn n68 n69)) fun n70=>
 An (fun k71=>gate false (Cs n70 n68)
 (k71 (Cs n_11 n70) h)
 (k71 true h)) fun b73 h72=>
 cnd b73
 (k (.tuple [(.int .u64 n_11),(.iface 304 (.int .i64 (Int.ofNat 1)))]) h72)
 (fI (wrap .i64 (Bn n_101 (Int.ofNat 1))) fun n74=>
 J.a1 n_1 b_8 l_9 c_9 n_10 n_11 b_12 n70 v_99 n_100 n74 h72)))
def Ad2(_c:CF)(_k:KV)(J:Tf)(l_0 c_0:Nat)(n_1 n_2:Int)(b_8:Bool)(l_9 c_9:Nat)(n_10:Int)(h:H):Prop:=
 fI (wrap .u64 n_2) fun n75=>
 Apm .u64 (Int.ofNat 1) n75 fun n76=>
 fI (wrap .u64 (Jj n76 (Int.ofNat 1))) fun n77=>
 oK (Gh env h 9 115 (.str l_0 c_0)) fun v78 h79=>
 Ef v78 fun m80=>
 J.a1 n_1 b_8 l_9 c_9 n_10 n77 false (Int.ofNat 0) v78 (Int.ofNat m80) (Int.ofNat 0) h79
def Ad1(_c:CF)(_k:KV)(J:Tf)(l_0 c_0:Nat)(n_1 n_2:Int)(b_8:Bool)(l_9 c_9:Nat)(h:H):Prop:=
 cnd (Ba n_1 (Int.ofNat 10))
 (J.a3 l_0 c_0 n_1 n_2 b_8 l_9 c_9 (Int.ofNat 1844674407370955162) h)
 (cnd (Ba n_1 (Int.ofNat 16))
 (J.a3 l_0 c_0 n_1 n_2 b_8 l_9 c_9 (Int.ofNat 1152921504606846976) h)
 (fI (wrap .u64 n_1) fun n81=>
 Ayp .u64 (Int.ofNat 18446744073709551615) n81 fun n82=>
 fI (wrap .u64 (Bn n82 (Int.ofNat 1))) fun n83=>
 J.a3 l_0 c_0 n_1 n_2 b_8 l_9 c_9 n83 h))
def Ad0(_c:CF)(k:KV)(J:Tf)(l_0 c_0:Nat)(n_1 n_2:Int)(b_8:Bool)(l_9 c_9:Nat)(h:H):Prop:=
 cnd (Ba n_2 (Int.ofNat 0))
 (J.a4 l_0 c_0 n_1 (Int.ofNat 64) b_8 l_9 c_9 h)
 (An (fun k84=>gate false (Cs n_2 (Int.ofNat 0))
 (k84 (Cs (Int.ofNat 64) n_2) h)
 (k84 true h)) fun b86 h85=>
 cnd b86
 (k (.tuple [(.int .u64 (Int.ofNat 0)),(.iface 304 (.int .i64 (Int.ofNat 4)))]) h85)
 (J.a4 l_0 c_0 n_1 n_2 b_8 l_9 c_9 h85))
def z173:Tf:=⟨fun _ _ _ _ _=>False,fun _ _ _ _ _ _ _ _ _ _ _ _=>False,fun _ _ _ _ _ _ _ _ _ _ _ _ _=>False,fun _ _ _ _ _ _ _ _ _=>False,fun _ _ _ _ _ _ _ _=>False,fun _ _ _ _ _ _ _ _=>False⟩
def Ox(c:CF)(k:KV)(m:Nat):Tf:=Nat.rec z173 (fun _ J=>⟨Ad5 c k J,Ad4 c k J,Ad3 c k J,Ad2 c k J,Ad1 c k J,Ad0 c k J⟩) m
def f173(J:Tf):Jump:=fun L f h=>match L with
 |0=>asS (f 0) fun l_0 c_0=>asI .i64 (f 1) fun n_1=>asI .i64 (f 2) fun n_2=>J.a0 l_0 c_0 n_1 n_2 h
 |1=>asI .i64 (f 1) fun n_1=>asB (f 8) fun b_8=>asS (f 9) fun l_9 c_9=>asI .u64 (f 10) fun n_10=>asI .u64 (f 11) fun n_11=>asB (f 12) fun b_12=>asI .u64 (f 13) fun n_13=>asI .i64 (f 100) fun n_100=>asI .i64 (f 101) fun n_101=>J.a1 n_1 b_8 l_9 c_9 n_10 n_11 b_12 n_13 (f 99) n_100 n_101 h
 |2=>asI .i64 (f 1) fun n_1=>asB (f 8) fun b_8=>asS (f 9) fun l_9 c_9=>asI .u64 (f 10) fun n_10=>asI .u64 (f 11) fun n_11=>asB (f 12) fun b_12=>asI .u64 (f 13) fun n_13=>asI .u8 (f 16) fun n_16=>asI .i64 (f 100) fun n_100=>asI .i64 (f 101) fun n_101=>J.a2 n_1 b_8 l_9 c_9 n_10 n_11 b_12 n_13 n_16 (f 99) n_100 n_101 h
 |3=>asS (f 0) fun l_0 c_0=>asI .i64 (f 1) fun n_1=>asI .i64 (f 2) fun n_2=>asB (f 8) fun b_8=>asS (f 9) fun l_9 c_9=>asI .u64 (f 10) fun n_10=>J.a3 l_0 c_0 n_1 n_2 b_8 l_9 c_9 n_10 h
 |4=>asS (f 0) fun l_0 c_0=>asI .i64 (f 1) fun n_1=>asI .i64 (f 2) fun n_2=>asB (f 8) fun b_8=>asS (f 9) fun l_9 c_9=>J.a4 l_0 c_0 n_1 n_2 b_8 l_9 c_9 h
 |5=>asS (f 0) fun l_0 c_0=>asI .i64 (f 1) fun n_1=>asI .i64 (f 2) fun n_2=>asB (f 8) fun b_8=>asS (f 9) fun l_9 c_9=>J.a5 l_0 c_0 n_1 n_2 b_8 l_9 c_9 h
 |_=>False
def Aj4:Bu:=[(.root,0),((.l (.r (.l (.r (.r (.r (.r (.r (.r (.r (.r (.r (.r (.r .root)))))))))))))),1),((.r (.r (.r (.l (.l (.r (.r (.l (.l (.r (.l (.r (.r (.r (.r (.r (.r (.r (.r (.r (.r (.r .root)))))))))))))))))))))),2),((.r (.r (.r (.r (.r (.r (.r (.r .root)))))))),3),((.r (.r (.r (.r (.r (.r .root)))))),4),((.r (.r (.r (.r (.r .root))))),5)]
def d176:Code:=Option.rec .skip (fun c=>c) Tryz.f176.body
def A3u:Aw:=[]
def A22:Bu:=[(.root,0)]
def d177:Code:=Option.rec .skip (fun c=>c) Tryz.f177.body
def A3t:Aw:=[]
structure Aw6 where
 a0:AV→H→Prop
def Arq(c:CF)(k:KV)(_J:Aw6)(v_0:AV)(h:H):Prop:=
 oK (Ck v_0 h) fun v1 h2=>
 Am 0 v1 fun v3=>
 c (.func 228) [v3] h2 fun _ h5=>
 k (.tuple []) h5
def Bhi:Aw6:=⟨fun _ _=>False⟩
def Akm(c:CF)(k:KV)(m:Nat):Aw6:=Nat.rec Bhi (fun _ J=>⟨Arq c k J⟩) m
def f177(J:Aw6):Jump:=fun L f h=>match L with
 |0=>J.a0 (f 0) h
 |_=>False
def A21:Bu:=[(.root,0)]
def d178:Code:=Option.rec .skip (fun c=>c) Tryz.f178.body
def A3s:Aw:=[(0,[0,1,2,3,4,5])]
structure Aw5 where
 a0:AV→Bool→H→Prop
def Arp(c:CF)(k:KV)(_J:Aw5)(v_0:AV)(b_1:Bool)(h:H):Prop:=
 oK (Ck v_0 h) fun v1 h2=>
 Am 0 v1 fun v3=>
 c (.func 230) [(.bool b_1)] h2 fun v4 h5=>
 asI .u32 v4 fun n6=>
 c (.func 229) [v3,(.int .u32 n6)] h5 fun _ h8=>
 k (.tuple []) h8
def Bhh:Aw5:=⟨fun _ _ _=>False⟩
def Akl(c:CF)(k:KV)(m:Nat):Aw5:=Nat.rec Bhh (fun _ J=>⟨Arp c k J⟩) m
def f178(J:Aw5):Jump:=fun L f h=>match L with
 |0=>asB (f 1) fun b_1=>J.a0 (f 0) b_1 h
 |_=>False
def A20:Bu:=[(.root,0)]
def d181:Code:=Option.rec .skip (fun c=>c) Tryz.f181.body
def A3r:Aw:=[]
structure Amg where
 a0:Int→H→Prop
 a1:Int→Int→H→Prop
def Adz(_c:CF)(_k:KV)(J:Amg)(n_0:Int)(h:H):Prop:=
 J.a1 n_0 (Int.ofNat 0) h
def Ady(_c:CF)(k:KV)(J:Amg)(n_0 n_4:Int)(h:H):Prop:=
 cnd (Cs n_4 (Int.ofNat 9))
 (Ci n_4 fun m1=>
 Eb 9 834587979106535026493 m1 fun m2=>
 cnd (Ba (Int.ofNat m2) n_0)
 (Ci n_4 fun m3=>
 Eb 9 2333331710704686619683 m3 fun m4=>
 k (.tuple [(.int .u8 (Int.ofNat m4)),(.bool true)]) h)
 (fI (wrap .i64 (Bn n_4 (Int.ofNat 1))) fun n5=>
 J.a1 n_0 n5 h))
 (k (.tuple [(.int .u8 (Int.ofNat 0)),(.bool false)]) h)
def Bhg:Amg:=⟨fun _ _=>False,fun _ _ _=>False⟩
def Aht(c:CF)(k:KV)(m:Nat):Amg:=Nat.rec Bhg (fun _ J=>⟨Adz c k J,Ady c k J⟩) m
def f181(J:Amg):Jump:=fun L f h=>match L with
 |0=>asI .u8 (f 0) fun n_0=>J.a0 n_0 h
 |1=>asI .u8 (f 0) fun n_0=>asI .i64 (f 4) fun n_4=>J.a1 n_0 n_4 h
 |_=>False
def A2z:Bu:=[(.root,0),((.l (.r (.l (.r .root)))),1)]
def d182:Code:=Option.rec .skip (fun c=>c) Tryz.f182.body
def Bcd:Aw:=[]
structure Aw4 where
 a0:H→Prop
def Adx(_c:CF)(k:KV)(_J:Aw4)(h:H):Prop:=
 oK (Ao env 44 (fun e ei=>Ak 54 [(0,(.str 4 975518245)),(1,(.str 3 3026478)),(2,(.str 3 4013116)),(3,(.str 3 4013630)),(4,(.str 2 15917)),(5,(.str 2 11051)),(6,(.str 2 11565)),(7,(.str 2 15420)),(8,(.str 2 15934)),(9,(.str 2 15676)),(10,(.str 2 15678)),(11,(.str 2 15677)),(12,(.str 2 15649)),(13,(.str 2 9766)),(14,(.str 2 31868)),(15,(.str 2 15658)),(16,(.str 2 15663)),(17,(.str 2 15653)),(18,(.str 2 15659)),(19,(.str 2 15661)),(20,(.str 2 15654)),(21,(.str 2 15710)),(22,(.str 2 15740)),(23,(.str 2 8995)),(24,(.str 2 14908)),(25,(.str 2 15930)),(26,(.str 2 9532)),(27,(.str 2 15909)),(28,(.str 2 14885)),(29,(.str 1 91)),(30,(.str 1 93)),(31,(.str 1 40)),(32,(.str 1 41)),(33,(.str 1 123)),(34,(.str 1 125)),(35,(.str 1 46)),(36,(.str 1 38)),(37,(.str 1 42)),(38,(.str 1 43)),(39,(.str 1 45)),(40,(.str 1 126)),(41,(.str 1 33)),(42,(.str 1 47)),(43,(.str 1 37)),(44,(.str 1 60)),(45,(.str 1 62)),(46,(.str 1 94)),(47,(.str 1 124)),(48,(.str 1 63)),(49,(.str 1 58)),(50,(.str 1 59)),(51,(.str 1 61)),(52,(.str 1 44)),(53,(.str 1 35))] h e ei)) fun v1 h2=>
 k v1 h2
def z182:Aw4:=⟨fun _=>False⟩
def Ar5(c:CF)(k:KV)(m:Nat):Aw4:=Nat.rec z182 (fun _ J=>⟨Adx c k J⟩) m
def f182(J:Aw4):Jump:=fun L _ h=>match L with
 |0=>J.a0 h
 |_=>False
def Ba5:Bu:=[(.root,0)]
def d207:Code:=Option.rec .skip (fun c=>c) Tryz.f207.body
def Bcc:Aw:=[]
structure Aw3 where
 a0:Nat→Nat→Int→H→Prop
def Adw(c:CF)(k:KV)(_J:Aw3)(l_0 c_0:Nat)(n_1:Int)(h:H):Prop:=
 c (.func 257) [(.str l_0 c_0),(.int .u8 n_1)] h fun v1 h2=>
 asI .i64 v1 fun n3=>
 k (.int .i64 n3) h2
def Bhf:Aw3:=⟨fun _ _ _ _=>False⟩
def Ar4(c:CF)(k:KV)(m:Nat):Aw3:=Nat.rec Bhf (fun _ J=>⟨Adw c k J⟩) m
def f207(J:Aw3):Jump:=fun L f h=>match L with
 |0=>asS (f 0) fun l_0 c_0=>asI .u8 (f 1) fun n_1=>J.a0 l_0 c_0 n_1 h
 |_=>False
def Ba4:Bu:=[(.root,0)]
def d208:Code:=Option.rec .skip (fun c=>c) Tryz.f208.body
def A3q:Aw:=[(3,[0,1,2,3,4,5,6,7,8,9,10,11,12])]
structure Amf where
 a0:AV→Int→H→Prop
 a1:AV→Int→H→Prop
def Adv(c:CF)(_k:KV)(J:Amf)(v_0:AV)(n_1:Int)(h:H):Prop:=
 c (.func 110) [v_0] h fun _ h2=>
 cnd (Cs n_1 (Int.ofNat 0))
 (False)
 (J.a1 v_0 n_1 h2)
def Adu(c:CF)(k:KV)(_J:Amf)(v_0:AV)(n_1:Int)(h:H):Prop:=
 oK (Ck v_0 h) fun v3 h4=>
 Am 1 v3 fun v5=>
 ld1 v5 h4 fun v6=>
 oK (Aq env .cap [115] [v6] h4) fun v7 h8=>
 asI .i64 v7 fun n9=>
 oK (Ck v_0 h8) fun v10 h11=>
 Am 1 v10 fun v12=>
 ld1 v12 h11 fun v13=>
 Ef v13 fun m14=>
 fI (wrap .i64 (Jj n9 (Int.ofNat m14))) fun n15=>
 cnd (Cs n15 n_1)
 (c (.func 258) [v_0,(.int .i64 n_1)] h11 fun _ h17=>
 k (.tuple []) h17)
 (k (.tuple []) h11)
def z208:Amf:=⟨fun _ _ _=>False,fun _ _ _=>False⟩
def Akk(c:CF)(k:KV)(m:Nat):Amf:=Nat.rec z208 (fun _ J=>⟨Adv c k J,Adu c k J⟩) m
def f208(J:Amf):Jump:=fun L f h=>match L with
 |0=>asI .i64 (f 1) fun n_1=>J.a0 (f 0) n_1 h
 |1=>asI .i64 (f 1) fun n_1=>J.a1 (f 0) n_1 h
 |_=>False
def A2y:Bu:=[(.root,0),((.r (.r .root)),1)]
def d214:Code:=Option.rec .skip (fun c=>c) Tryz.f214.body
def A3p:Aw:=[]
def A2x:Bu:=[(.root,0)]
def d215:Code:=Option.rec .skip (fun c=>c) Tryz.f215.body
def Bcb:Aw:=[]
structure Aw2 where
 a0:AV→Int→H→Prop
def Adt(_c:CF)(k:KV)(_J:Aw2)(v_0:AV)(n_1:Int)(h:H):Prop:=
 oK (Ck v_0 h) fun v1 h2=>
 oK (Cw env 264 v1 (Bc (.int .u8 n_1)) h2) fun v3 h4=>
 ld1 v3 h4 fun v5=>
 asB v5 fun b6=>
 k (.bool b6) h4
def Bhe:Aw2:=⟨fun _ _ _=>False⟩
def Ar3(c:CF)(k:KV)(m:Nat):Aw2:=Nat.rec Bhe (fun _ J=>⟨Adt c k J⟩) m
def f215(J:Aw2):Jump:=fun L f h=>match L with
 |0=>asI .u8 (f 1) fun n_1=>J.a0 (f 0) n_1 h
 |_=>False
def Ba3:Bu:=[(.root,0)]
def d219:Code:=Option.rec .skip (fun c=>c) Tryz.f219.body
def A3o:Aw:=[]
structure Ame where
 a0:Nat→Nat→AV→H→Prop
 a1:Nat→Nat→AV→H→Prop
def Ads(_c:CF)(_k:KV)(J:Ame)(l_0 c_0:Nat)(v_1:AV)(h:H):Prop:=
 J.a1 l_0 c_0 v_1 h
def Yz(c:CF)(k:KV)(J:Ame)(l_0 c_0:Nat)(v_1:AV)(h:H):Prop:=
 cnd (Cs (Int.ofNat 0) (Int.ofNat l_0))
 (Eb l_0 c_0 0 fun m1=>
 c (.func 215) [v_1,(.int .u8 (Int.ofNat m1))] h fun v2 h3=>
 asB v2 fun b4=>
 cnd (Da b4)
 (k (.str l_0 c_0) h3)
 (Ge l_0 c_0 1 l_0 fun l5 c6=>
 J.a1 l5 c6 v_1 h3))
 (k (.str l_0 c_0) h)
def Bhd:Ame:=⟨fun _ _ _ _=>False,fun _ _ _ _=>False⟩
def Ahs(c:CF)(k:KV)(m:Nat):Ame:=Nat.rec Bhd (fun _ J=>⟨Ads c k J,Yz c k J⟩) m
def f219(J:Ame):Jump:=fun L f h=>match L with
 |0=>asS (f 0) fun l_0 c_0=>J.a0 l_0 c_0 (f 1) h
 |1=>asS (f 0) fun l_0 c_0=>J.a1 l_0 c_0 (f 1) h
 |_=>False
def A2w:Bu:=[(.root,0),((.l (.l (.r .root))),1)]
def d221:Code:=Option.rec .skip (fun c=>c) Tryz.f221.body
def Bca:Aw:=[]
structure Aw1 where
 a0:Int→H→Prop
def Adr(_c:CF)(k:KV)(_J:Aw1)(n_0:Int)(h:H):Prop:=
 Aby Nat.lor .u8 n_0 (Int.ofNat 32) fun n1=>
 k (.int .u8 n1) h
def Bhc:Aw1:=⟨fun _ _=>False⟩
def Ar2(c:CF)(k:KV)(m:Nat):Aw1:=Nat.rec Bhc (fun _ J=>⟨Adr c k J⟩) m
def f221(J:Aw1):Jump:=fun L f h=>match L with
 |0=>asI .u8 (f 0) fun n_0=>J.a0 n_0 h
 |_=>False
def Ba2:Bu:=[(.root,0)]
def d224:Code:=Option.rec .skip (fun c=>c) Tryz.f224.body
def Bb9:Aw:=[(1,[0,1,3,2,4,5,6])]
structure Aw0 where
 a0:Nat→Nat→Nat→Nat→H→Prop
def Adq(c:CF)(k:KV)(_J:Aw0)(l_0 c_0:Nat)(l_1 c_1:Nat)(h:H):Prop:=
 ld1 (.ptr (.r (.r .z)) 0) h fun v1=>
 c (.func 265) [(.str l_1 c_1)] h fun v2 h3=>
 asS v2 fun l4 c5=>
 ld1 (.ptr (.r (.r .z)) 0) h3 fun v6=>
 eqC v6 v1<|
 oK (Bp env (env.ty 365) [(0,(.str l_0 c_0)),(1,(.str l4 c5)),(2,v1)] h3) fun v7 h8=>
 asG v7 fun g9=>
 chk (Nat.ble 1 (len g9))<|
 Hp.Fx h8 (rowOf 365 g9) fun p10 h11=>
 k (.ptr p10 0) h11
def Bhb:Aw0:=⟨fun _ _ _ _ _=>False⟩
def Ar1(c:CF)(k:KV)(m:Nat):Aw0:=Nat.rec Bhb (fun _ J=>⟨Adq c k J⟩) m
def f224(J:Aw0):Jump:=fun L f h=>match L with
 |0=>asS (f 0) fun l_0 c_0=>asS (f 1) fun l_1 c_1=>J.a0 l_0 c_0 l_1 c_1 h
 |_=>False
def Ba1:Bu:=[(.root,0)]
def d227:Code:=Option.rec .skip (fun c=>c) Tryz.f227.body
def A3n:Aw:=[]
def A2v:Bu:=[(.root,0)]
def d228:Code:=Option.rec .skip (fun c=>c) Tryz.f228.body
def A3m:Aw:=[]
def A2u:Bu:=[(.root,0),((.r .root),1)]
def d230:Code:=Option.rec .skip (fun c=>c) Tryz.f230.body
def A3l:Aw:=[]
def A2t:Bu:=[(.root,0)]
def d258:Code:=Option.rec .skip (fun c=>c) Tryz.f258.body
def Bb8:Aw:=[(0,[0,1,2,3,4,5,6,7,9,10,11,12,13,8,14,15])]
structure Awz where
 a0:AV→Int→H→Prop
def Adp(c:CF)(k:KV)(_J:Awz)(v_0:AV)(n_1:Int)(h:H):Prop:=
 oK (Ck v_0 h) fun v1 h2=>
 Am 1 v1 fun v3=>
 ld1 v3 h2 fun v4=>
 oK (Aq env .cap [115] [v4] h2) fun v5 h6=>
 asI .i64 v5 fun n7=>
 fI (wrap .i64 ((Int.ofNat 2)*n7)) fun n8=>
 fI (wrap .i64 (Bn n8 n_1)) fun n9=>
 oK (Ck v_0 h6) fun v10 h11=>
 Am 1 v10 fun v12=>
 ld1 v12 h11 fun v13=>
 Ef v13 fun m14=>
 c (.func 290) [(.int .i64 n9)] h11 fun v15 h16=>
 ld1 v12 h16 fun v17=>
 eqC v17 v13<|
 oK (slice3 env h16 115 v15 none (some (Bc (.int .i64 (Int.ofNat m14)))) none) fun v18 h19=>
 oK (Ck v_0 h19) fun v20 h21=>
 Am 1 v20 fun v22=>
 ld1 v22 h21 fun v23=>
 oK (Aq env .copy [115,115] [v18,v23] h21) fun v24 h25=>
 asI .i64 v24 fun _=>
 oK (Ck v_0 h25) fun v27 h28=>
 Am 1 v27 fun v29=>
 st1 v29 v18 h28 fun h30=>
 k (.tuple []) h30
def Bha:Awz:=⟨fun _ _ _=>False⟩
def Ar0(c:CF)(k:KV)(m:Nat):Awz:=Nat.rec Bha (fun _ J=>⟨Adp c k J⟩) m
def f258(J:Awz):Jump:=fun L f h=>match L with
 |0=>asI .i64 (f 1) fun n_1=>J.a0 (f 0) n_1 h
 |_=>False
def Ba0:Bu:=[(.root,0)]
def d263:Code:=Option.rec .skip (fun c=>c) Tryz.f263.body
def A3k:Aw:=[(3,[0,1,2,3,4,5,6,7,8])]
def A2s:Bu:=[(.root,0),((.l (.r (.l (.r (.r (.r (.r .root))))))),1),((.r (.r (.l (.l (.r (.l (.r (.r (.r (.r .root)))))))))),2),((.l (.r (.l (.r (.l (.r (.l (.r (.r (.r (.r (.r .root)))))))))))),3),((.l (.r (.l (.r (.r (.l (.r (.l (.r (.r (.r (.r (.r .root))))))))))))),4),((.l (.r (.l (.r (.r (.r (.r (.r (.r (.r .root)))))))))),5),((.r (.r (.r (.l (.l (.r (.l (.l (.r (.l (.r (.r (.r (.r (.r (.r (.r .root))))))))))))))))),6)]
def d265:Code:=Option.rec .skip (fun c=>c) Tryz.f265.body
def Bb7:Aw:=[]
structure Awy where
 a0:Nat→Nat→H→Prop
def Ado(_c:CF)(k:KV)(_J:Awy)(l_0 c_0:Nat)(h:H):Prop:=
 cnd (Ba (Int.ofNat l_0) (Int.ofNat 0))
 (k (.str 0 0) h)
 (oK (Ao env 115 (fun e ei=>Dv (Bc (.int .i64 (Int.ofNat l_0))) (Bc (.int .i64 (Int.ofNat l_0))) h e ei)) fun v1 h2=>
 oK (Aq env .copy [115,9] [v1,(.str l_0 c_0)] h2) fun v3 h4=>
 asI .i64 v3 fun _=>
 Bz 1 0 v1 fun v6=>
 Ef v1 fun m7=>
 oK (Aq env .unsafeString [225,3] [v6,(.int .i64 (Int.ofNat m7))] h4) fun v8 h9=>
 asS v8 fun l10 c11=>
 k (.str l10 c11) h9)
def Bg9:Awy:=⟨fun _ _ _=>False⟩
def Arz(c:CF)(k:KV)(m:Nat):Awy:=Nat.rec Bg9 (fun _ J=>⟨Ado c k J⟩) m
def f265(J:Awy):Jump:=fun L f h=>match L with
 |0=>asS (f 0) fun l_0 c_0=>J.a0 l_0 c_0 h
 |_=>False
def Baz:Bu:=[(.root,0)]
def d374:Code:=Option.rec .skip (fun c=>c) Tryz.f374.body
def Ahx:Aw:=[(9,[0,1,2,3,4,5,6,7,8,9,10,11,12,13]),(28,[0,1,2,3,4,5,6,7,8,9,10,11,12])]
structure Qo where
 a0:AV→Nat→Nat→H→Prop
 a1:AV→Nat→Nat→Int→Bool→AV→Int→Int→H→Prop
 a2:AV→Nat→Nat→Int→Bool→Int→H→Prop
 a3:AV→Nat→Nat→Int→Bool→Int→H→Prop
 a4:AV→Nat→Nat→AV→Int→Int→H→Prop
 a5:AV→Nat→Nat→AV→Int→Int→H→Prop
 a6:AV→Nat→Nat→Int→Bool→H→Prop
def Adn(_c:CF)(_k:KV)(J:Qo)(v_0:AV)(l_1 c_1:Nat)(h:H):Prop:=
 oK (Ck v_0 h) fun v1 h2=>
 Am 256 v1 fun v3=>
 ld1 v3 h2 fun v4=>
 Ef v4 fun m5=>
 fI (wrap .i64 ((Int.ofNat m5)*(Int.ofNat 8))) fun n6=>
 cnd (Ex n6 (Int.ofNat l_1))
 (oK (Ck v_0 h2) fun v7 h8=>
 Am 256 v7 fun v9=>
 ld1 v9 h8 fun v10=>
 Ef v10 fun m11=>
 J.a1 v_0 l_1 c_1 (Int.ofNat l_1) false v10 (Int.ofNat m11) (Int.ofNat 0) h8)
 (J.a2 v_0 l_1 c_1 (Int.ofNat l_1) false (Int.ofNat 0) h2)
def Yy(c:CF)(_k:KV)(J:Qo)(v_0:AV)(l_1 c_1:Nat)(n_5:Int)(b_6:Bool)(v_30:AV)(n_31 n_32:Int)(h:H):Prop:=
 cnd (Cs n_32 n_31)
 (Ci n_32 fun m12=>
 Bz 1 m12 v_30 fun v13=>
 ld1 v13 h fun v14=>
 asS v14 fun l15 c16=>
 c (.func 376) [(.str l_1 c_1),(.str l15 c16)] h fun v17 h18=>
 asI .i64 v17 fun n19=>
 cnd (Da (Ba n19 (Int.ofNat 0)))
 (Eb l15 c16 0 fun m20=>
 oK (Ck v_0 h18) fun v21 h22=>
 Am 0 v21 fun v23=>
 oK (Cw env 410 v23 (Bc (.int .u8 (Int.ofNat m20))) h22) fun v24 h25=>
 ld1 v24 h25 fun v26=>
 Ef v26 fun m27=>
 fI (wrap .i64 (Jj (Int.ofNat m27) (Int.ofNat 1))) fun n28=>
 fI (wrap .i64 (n19*n28)) fun n29=>
 fI (wrap .i64 (Bn n_5 n29)) fun n30=>
 fI (wrap .i64 (Bn n_32 (Int.ofNat 1))) fun n31=>
 J.a1 v_0 l_1 c_1 n30 true v_30 n_31 n31 h25)
 (fI (wrap .i64 (Bn n_32 (Int.ofNat 1))) fun n32=>
 J.a1 v_0 l_1 c_1 n_5 b_6 v_30 n_31 n32 h18))
 (J.a6 v_0 l_1 c_1 n_5 b_6 h)
def Adm(_c:CF)(_k:KV)(J:Qo)(v_0:AV)(l_1 c_1:Nat)(n_5:Int)(b_6:Bool)(n_10:Int)(h:H):Prop:=
 cnd (Cs n_10 (Int.ofNat l_1))
 (Ci n_10 fun m33=>
 Eb l_1 c_1 m33 fun m34=>
 oK (Ck v_0 h) fun v35 h36=>
 Am 0 v35 fun v37=>
 oK (Cw env 410 v37 (Bc (.int .u8 (Int.ofNat m34))) h36) fun v38 h39=>
 ld1 v38 h39 fun v40=>
 oV (Kz env .neq 115 v40 .Ad) fun v41=>
 asB v41 fun b42=>
 cnd b42
 (oK (Ck v_0 h39) fun v43 h44=>
 Am 0 v43 fun v45=>
 oK (Cw env 410 v45 (Bc (.int .u8 (Int.ofNat m34))) h44) fun v46 h47=>
 ld1 v46 h47 fun v48=>
 Ef v48 fun m49=>
 fI (wrap .i64 (Jj (Int.ofNat m49) (Int.ofNat 1))) fun n50=>
 fI (wrap .i64 (Bn n_5 n50)) fun n51=>
 J.a3 v_0 l_1 c_1 n51 true n_10 h47)
 (J.a3 v_0 l_1 c_1 n_5 b_6 n_10 h39))
 (J.a6 v_0 l_1 c_1 n_5 b_6 h)
def Yx(_c:CF)(_k:KV)(J:Qo)(v_0:AV)(l_1 c_1:Nat)(n_5:Int)(b_6:Bool)(n_10:Int)(h:H):Prop:=
 fI (wrap .i64 (Bn n_10 (Int.ofNat 1))) fun n52=>
 J.a2 v_0 l_1 c_1 n_5 b_6 n52 h
def Adl(_c:CF)(k:KV)(J:Qo)(v_0:AV)(l_1 c_1:Nat)(v_12:AV)(n_13 n_14:Int)(h:H):Prop:=
 cnd (Cs n_14 (Int.ofNat l_1))
 (Ci n_14 fun m53=>
 Eb l_1 c_1 m53 fun m54=>
 oK (Ck v_0 h) fun v55 h56=>
 Am 0 v55 fun v57=>
 oK (Cw env 410 v57 (Bc (.int .u8 (Int.ofNat m54))) h56) fun v58 h59=>
 ld1 v58 h59 fun v60=>
 oV (Kz env .neq 115 v60 .Ad) fun v61=>
 asB v61 fun b62=>
 cnd b62
 (oK (slice3 env h59 115 v_12 (some (Bc (.int .i64 n_13))) none none) fun v63 h64=>
 oK (Ck v_0 h64) fun v65 h66=>
 Am 0 v65 fun v67=>
 oK (Cw env 410 v67 (Bc (.int .u8 (Int.ofNat m54))) h66) fun v68 h69=>
 ld1 v68 h69 fun v70=>
 oK (Aq env .copy [115,115] [v63,v70] h69) fun v71 h72=>
 asI .i64 v71 fun n73=>
 fI (wrap .i64 (Bn n_13 n73)) fun n74=>
 J.a5 v_0 l_1 c_1 v_12 n74 n_14 h72)
 (Ci n_13 fun m75=>
 Bz 1 m75 v_12 fun v76=>
 st1 v76 (.int .u8 (Int.ofNat m54)) h59 fun h77=>
 fI (wrap .i64 (Bn n_13 (Int.ofNat 1))) fun n78=>
 J.a5 v_0 l_1 c_1 v_12 n78 n_14 h77))
 (oK (Gh env h 115 9 v_12) fun v79 h80=>
 asS v79 fun l81 c82=>
 k (.str l81 c82) h80)
def Adk(_c:CF)(_k:KV)(J:Qo)(v_0:AV)(l_1 c_1:Nat)(v_12:AV)(n_13 n_14:Int)(h:H):Prop:=
 fI (wrap .i64 (Bn n_14 (Int.ofNat 1))) fun n83=>
 J.a4 v_0 l_1 c_1 v_12 n_13 n83 h
def Adj(_c:CF)(k:KV)(J:Qo)(v_0:AV)(l_1 c_1:Nat)(n_5:Int)(b_6:Bool)(h:H):Prop:=
 cnd (Da b_6)
 (k (.str l_1 c_1) h)
 (oK (Ao env 115 (fun e ei=>Dv (Bc (.int .i64 n_5)) (Bc (.int .i64 n_5)) h e ei)) fun v84 h85=>
 J.a4 v_0 l_1 c_1 v84 (Int.ofNat 0) (Int.ofNat 0) h85)
def Bg8:Qo:=⟨fun _ _ _ _=>False,fun _ _ _ _ _ _ _ _ _=>False,fun _ _ _ _ _ _ _=>False,fun _ _ _ _ _ _ _=>False,fun _ _ _ _ _ _ _=>False,fun _ _ _ _ _ _ _=>False,fun _ _ _ _ _ _=>False⟩
def Kg(c:CF)(k:KV)(m:Nat):Qo:=Nat.rec Bg8 (fun _ J=>⟨Adn c k J,Yy c k J,Adm c k J,Yx c k J,Adl c k J,Adk c k J,Adj c k J⟩) m
def f374(J:Qo):Jump:=fun L f h=>match L with
 |0=>asS (f 1) fun l_1 c_1=>J.a0 (f 0) l_1 c_1 h
 |1=>asS (f 1) fun l_1 c_1=>asI .i64 (f 5) fun n_5=>asB (f 6) fun b_6=>asI .i64 (f 31) fun n_31=>asI .i64 (f 32) fun n_32=>J.a1 (f 0) l_1 c_1 n_5 b_6 (f 30) n_31 n_32 h
 |2=>asS (f 1) fun l_1 c_1=>asI .i64 (f 5) fun n_5=>asB (f 6) fun b_6=>asI .i64 (f 10) fun n_10=>J.a2 (f 0) l_1 c_1 n_5 b_6 n_10 h
 |3=>asS (f 1) fun l_1 c_1=>asI .i64 (f 5) fun n_5=>asB (f 6) fun b_6=>asI .i64 (f 10) fun n_10=>J.a3 (f 0) l_1 c_1 n_5 b_6 n_10 h
 |4=>asS (f 1) fun l_1 c_1=>asI .i64 (f 13) fun n_13=>asI .i64 (f 14) fun n_14=>J.a4 (f 0) l_1 c_1 (f 12) n_13 n_14 h
 |5=>asS (f 1) fun l_1 c_1=>asI .i64 (f 13) fun n_13=>asI .i64 (f 14) fun n_14=>J.a5 (f 0) l_1 c_1 (f 12) n_13 n_14 h
 |6=>asS (f 1) fun l_1 c_1=>asI .i64 (f 5) fun n_5=>asB (f 6) fun b_6=>J.a6 (f 0) l_1 c_1 n_5 b_6 h
 |_=>False
def Ag9:Bu:=[(.root,0),((.l (.r (.l (.r (.l (.r (.r (.r .root)))))))),1),((.l (.r (.r (.r (.l (.r (.r (.r .root)))))))),2),((.r (.r (.l (.l (.r (.r (.r (.l (.r (.r (.r .root))))))))))),3),((.l (.r (.l (.r (.r (.r (.r (.r (.r (.r .root)))))))))),4),((.r (.r (.l (.l (.r (.l (.r (.r (.r (.r (.r (.r (.r .root))))))))))))),5),((.r (.r (.r (.r .root)))),6)]
def d376:Code:=Option.rec .skip (fun c=>c) Tryz.f376.body
def Bb6:Aw:=[]
structure Awx where
 a0:Nat→Nat→Nat→Nat→H→Prop
def Adi(c:CF)(k:KV)(_J:Awx)(l_0 c_0:Nat)(l_1 c_1:Nat)(h:H):Prop:=
 cnd (Ba (Int.ofNat l_1) (Int.ofNat 0))
 (c (.func 377) [(.str l_0 c_0)] h fun v1 h2=>
 asI .i64 v1 fun n3=>
 fI (wrap .i64 (Bn n3 (Int.ofNat 1))) fun n4=>
 k (.int .i64 n4) h2)
 (cnd (Ba (Int.ofNat l_1) (Int.ofNat 1))
 (Eb l_1 c_1 0 fun m5=>
 c (.func 378) [(.str l_0 c_0),(.int .u8 (Int.ofNat m5))] h fun v6 h7=>
 asI .i64 v6 fun n8=>
 k (.int .i64 n8) h7)
 (False))
def Bg7:Awx:=⟨fun _ _ _ _ _=>False⟩
def Ary(c:CF)(k:KV)(m:Nat):Awx:=Nat.rec Bg7 (fun _ J=>⟨Adi c k J⟩) m
def f376(J:Awx):Jump:=fun L f h=>match L with
 |0=>asS (f 0) fun l_0 c_0=>asS (f 1) fun l_1 c_1=>J.a0 l_0 c_0 l_1 c_1 h
 |_=>False
def Bay:Bu:=[(.root,0),((.l (.r (.r (.r (.r .root))))),1)]
end Go.Den
