/-
 Proof.
-/
import Derived.Test.YtcnmehbkpaoolaaGreatDoorRunA
noncomputable section
namespace Go.Den
open Go.Proofs
set_option maxRecDepth 100000
def d15:Code:=Option.rec .skip (fun c=>c) Tryz.f15.body
def q15:Aw:=[]
def u15:Bm:=[(.root,0)]
def d16:Code:=Option.rec .skip (fun c=>c) Tryz.f16.body
def q16:Aw:=[(8,[0,1,2,3,4,5,6,7,8,9,10,11,12,13,14,15]),(13,[0,1,2,3,4,5,6,9,10,11,12,7,8,13,14])]
structure J16 where
 a0:AV→H→Prop
 a1:AV→AV→Int→H→Prop
 a2:AV→AV→Int→H→Prop
def Aoa(_c:CF)(_k:KV)(J:J16)(v_0:AV)(h:H):Prop:=
 oK (Bo env (env.ty 98) [(1,v_0)] h) fun v1 h2=>
 asG v1 fun g3=>
 chk (Nat.ble 1 (len g3))<|
 Hp.Fi h2 (rowOf 98 g3) fun p4 h5=>
 J.a1 v_0 (.ptr p4 0) (Int.ofNat 0) h5
def An9(c:CF)(k:KV)(J:J16)(v_0 v_4:AV)(n_5:Int)(h:H):Prop:=
 Gn v_0 fun m6=>
 cnd (Cl n_5 (Int.ofNat m6))
 (Bz n_5 fun m7=>
 Dd 8 m7 v_0 fun v8=>
 ldn 8 v8 h fun v9=>
 Hp.Fi h A34 fun p10 h11=>
 stn 8 (.ptr p10 0) v9 h11 fun h12=>
 As 0 (.ptr p10 0) fun v13=>
 ld1 v13 h12 fun v14=>
 asI .i64 v14 fun n15=>
 cnd (Ba n15 (Int.ofNat 4))
 (c (.func 34) [v_4,(.int .i64 n_5)] h12 fun v16 h17=>
 asI .i64 v16 fun n18=>
 J.a1 v_0 v_4 n18 h17)
 (ldn 8 (.ptr p10 0) h12 fun v19=>
 c (.func 35) [v_4,v19] h12 fun v20 h21=>
 ext 0 v20 fun v22=>
 asI .i64 v22 fun n23=>
 ext 1 v20 fun v24=>
 asS v24 fun l25 c26=>
 As 0 (.ptr p10 0) fun v27=>
 ld1 v27 h21 fun v28=>
 asI .i64 v28 fun n29=>
 cnd (Ba n29 (Int.ofNat 7))
 (J.a2 v_0 v_4 n_5 h21)
 (cnd (Ba n23 (Int.ofNat 0))
 (As 3 (.ptr p10 0) fun v30=>
 ldn 3 v30 h21 fun v31=>
 c (.func 36) [v_4,v31] h21 fun _ h33=>
 J.a2 v_0 v_4 n_5 h33)
 (oK (Cp v_4 h21) fun v34 h35=>
 As 5 v34 fun v36=>
 ld1 v36 h35 fun v37=>
 As 3 (.ptr p10 0) fun v38=>
 ldn 3 v38 h35 fun v39=>
 oK (Bo env (env.ty 40) [(0,(.int .i64 n23)),(1,(.str l25 c26)),(2,v39),(3,(.int .i64 n_5)),(4,(.int .i64 (Int.ofNat 1)))] h35) fun v40 h41=>
 oK (Au env 25 (fun e ei=>Ak 1 [(0,v40)] h41 e ei)) fun v42 h43=>
 ld1 v36 h43 fun v44=>
 eqC v44 v37<|
 oK (Az env .append [25,25] [v37,v42] h43) fun v45 h46=>
 oK (Cp v_4 h46) fun v47 h48=>
 As 5 v47 fun v49=>
 st1 v49 v45 h48 fun h50=>
 J.a2 v_0 v_4 n_5 h50))))
 (oK (Cp v_4 h) fun v51 h52=>
 As 5 v51 fun v53=>
 ld1 v53 h52 fun v54=>
 Gn v_0 fun m55=>
 oK (Bo env (env.ty 40) [(0,(.int .i64 (Int.ofNat 8))),(3,(.int .i64 (Int.ofNat m55)))] h52) fun v56 h57=>
 oK (Cp v_4 h57) fun v58 h59=>
 As 6 v58 fun v60=>
 ld1 v60 h59 fun v61=>
 oK (Au env 25 (fun e ei=>Ak 1 [(0,v56)] h59 e ei)) fun v62 h63=>
 ld1 v53 h63 fun v64=>
 eqC v64 v54<|
 ld1 v60 h63 fun v65=>
 eqC v65 v61<|
 oK (Az env .append [25,25] [v54,v62] h63) fun v66 h67=>
 ld1 v60 h67 fun v68=>
 eqC v68 v61<|
 k (.tuple [v66,v61]) h67)
def An8(_c:CF)(_k:KV)(J:J16)(v_0 v_4:AV)(n_5:Int)(h:H):Prop:=
 fI (wrap .i64 (Cd n_5 (Int.ofNat 1))) fun n69=>
 J.a1 v_0 v_4 n69 h
def z16:J16:=⟨fun _ _=>False,fun _ _ _ _=>False,fun _ _ _ _=>False⟩
def r16(c:CF)(k:KV)(m:Nat):J16:=Nat.rec z16 (fun _ J=>⟨Aoa c k J,An9 c k J,An8 c k J⟩) m
def f16(J:J16):Jump:=fun L f h=>match L with
 |0=>J.a0 (f 0) h
 |1=>asI .i64 (f 5) fun n_5=>J.a1 (f 0) (f 4) n_5 h
 |2=>asI .i64 (f 5) fun n_5=>J.a2 (f 0) (f 4) n_5 h
 |_=>False
def u16:Bm:=[(.root,0),((.l (.r (.l (.r (.r .root))))),1),((.r (.r (.r (.r (.l (.r (.l (.l (.r (.l (.r (.r .root)))))))))))),2)]
def d20:Code:=Option.rec .skip (fun c=>c) Tryz.f20.body
def q20:Aw:=[]
structure J20 where
 a0:Nat→Nat→H→Prop
def Ant(c:CF)(k:KV)(_J:J20)(l_0 c_0:Nat)(h:H):Prop:=
 oK (Bo env (env.ty 96) [] h) fun v1 h2=>
 asG v1 fun g3=>
 chk (Nat.ble 1 (len g3))<|
 Hp.Fi h2 (rowOf 96 g3) fun p4 h5=>
 c (.func 43) [(.ptr p4 0),(.str l_0 c_0)] h5 fun v6 h7=>
 asB v6 fun b8=>
 k (.bool b8) h7
def z20:J20:=⟨fun _ _ _=>False⟩
def r20(c:CF)(k:KV)(m:Nat):J20:=Nat.rec z20 (fun _ J=>⟨Ant c k J⟩) m
def f20(J:J20):Jump:=fun L f h=>match L with
 |0=>asS (f 0) fun l_0 c_0=>J.a0 l_0 c_0 h
 |_=>False
def u20:Bm:=[(.root,0)]
def d22:Code:=Option.rec .skip (fun c=>c) Tryz.f22.body
def q22:Aw:=[]
def u22:Bm:=[(.root,0),((.l (.r (.l (.r (.r (.r .root)))))),1)]
def d34:Code:=Option.rec .skip (fun c=>c) Tryz.f34.body
def q34:Aw:=[(24,[0,1,2,3,4,5,6,7,8,9,10])]
structure J34 where
 a0:AV→Int→H→Prop
 a1:AV→Int→AV→AV→Nat→Nat→Bool→Int→Int→H→Prop
 a2:AV→Int→AV→AV→Nat→Nat→Bool→Int→Nat→Nat→H→Prop
 a3:AV→Int→AV→AV→Nat→Nat→Bool→Int→Int→H→Prop
 a4:AV→Int→AV→AV→Nat→Nat→Int→H→Prop
def Ano(_c:CF)(_k:KV)(J:J34)(v_0:AV)(n_1:Int)(h:H):Prop:=
 oK (Cp v_0 h) fun v1 h2=>
 As 4 v1 fun v3=>
 ld1 v3 h2 fun v4=>
 Bz n_1 fun m5=>
 Dd 8 m5 v4 fun v6=>
 As 3 v6 fun v7=>
 ldn 3 v7 h2 fun v8=>
 oK (Bo env (env.ty 40) [(0,(.int .i64 (Int.ofNat 6))),(2,v8),(3,(.int .i64 n_1))] h2) fun v9 h10=>
 Hp.Fi h10 Aht fun p11 h12=>
 stn 7 (.ptr p11 0) v9 h12 fun h13=>
 Hp.Fi h13 Wx fun p14 h15=>
 J.a1 v_0 n_1 (.ptr p11 0) (.ptr p14 0) 0 0 false n_1 n_1 h15
def Ann(c:CF)(_k:KV)(J:J34)(v_0:AV)(n_1:Int)(v_5 v_6:AV)(l_7 c_7:Nat)(b_8:Bool)(n_9 n_10:Int)(h:H):Prop:=
 oK (Cp v_0 h) fun v16 h17=>
 As 4 v16 fun v18=>
 ld1 v18 h17 fun v19=>
 Gn v19 fun m20=>
 cnd (Cl n_10 (Int.ofNat m20))
 (oK (Cp v_0 h17) fun v21 h22=>
 As 4 v21 fun v23=>
 ld1 v23 h22 fun v24=>
 Bz n_10 fun m25=>
 Dd 8 m25 v24 fun v26=>
 ldn 8 v26 h22 fun v27=>
 Hp.Fi h22 A34 fun p28 h29=>
 stn 8 (.ptr p28 0) v27 h29 fun h30=>
 As 0 (.ptr p28 0) fun v31=>
 ld1 v31 h30 fun v32=>
 asI .i64 v32 fun n33=>
 cnd (Ba n33 (Int.ofNat 7))
 (J.a3 v_0 n_1 v_5 v_6 l_7 c_7 b_8 n_9 n_10 h30)
 (As 1 (.ptr p28 0) fun v34=>
 ld1 v34 h30 fun v35=>
 asS v35 fun l36 c37=>
 c (.func 59) [(.str l36 c37)] h30 fun v38 h39=>
 ext 0 v38 fun v40=>
 asS v40 fun l41 c42=>
 ext 1 v38 fun v43=>
 asB v43 fun b44=>
 As 0 (.ptr p28 0) fun v45=>
 ld1 v45 h39 fun v46=>
 asI .i64 v46 fun n47=>
 Ao (fun k48=>gate false (Cn (Ba n47 (Int.ofNat 4)))
 (k48 (Cn b44) h39)
 (k48 true h39)) fun b50 h49=>
 cnd b50
 (J.a4 v_0 n_1 v_5 v_6 l_7 c_7 n_9 h49)
 (As 1 (.ptr p28 0) fun v51=>
 ld1 v51 h49 fun v52=>
 asS v52 fun l53 c54=>
 c (.func 60) [(.str l53 c54)] h49 fun v55 h56=>
 ext 0 v55 fun v57=>
 asS v57 fun l58 c59=>
 ext 1 v55 fun v60=>
 asB v60 fun _=>
 Ao (fun k62=>gate false (Bg l58 c59 0 0)
 (k62 (Bg l58 c59 l_7 c_7) h56)
 (k62 true h56)) fun b64 h63=>
 cnd b64
 (J.a2 v_0 n_1 v_5 v_6 l_7 c_7 b_8 n_10 l41 c42 h63)
 (cnd (Bg l_7 c_7 0 0)
 (J.a2 v_0 n_1 v_5 v_6 l58 c59 b_8 n_10 l41 c42 h63)
 (cnd (Cn b_8)
 (As 3 (.ptr p28 0) fun v65=>
 ldn 3 v65 h63 fun v66=>
 c (.func 36) [v_0,v66] h63 fun _ h68=>
 J.a2 v_0 n_1 v_5 v_6 l_7 c_7 true n_10 l41 c42 h68)
 (J.a2 v_0 n_1 v_5 v_6 l_7 c_7 b_8 n_10 l41 c42 h63))))))
 (J.a4 v_0 n_1 v_5 v_6 l_7 c_7 n_9 h17)
def Anm(c:CF)(_k:KV)(J:J34)(v_0:AV)(n_1:Int)(v_5 v_6:AV)(l_7 c_7:Nat)(b_8:Bool)(n_10:Int)(l_12 c_12:Nat)(h:H):Prop:=
 c (.func 61) [v_6,(.str l_12 c_12)] h fun _ h70=>
 As 6 v_5 fun v71=>
 ld1 v71 h70 fun v72=>
 asI .i64 v72 fun n73=>
 fI (wrap .i64 (Cd n73 (Int.ofNat 1))) fun n74=>
 fI (wrap .i64 (Cd n_10 (Int.ofNat 1))) fun n75=>
 As 6 v_5 fun v76=>
 st1 v76 (.int .i64 n74) h70 fun h77=>
 J.a3 v_0 n_1 v_5 v_6 l_7 c_7 b_8 n75 n_10 h77
def Anl(_c:CF)(_k:KV)(J:J34)(v_0:AV)(n_1:Int)(v_5 v_6:AV)(l_7 c_7:Nat)(b_8:Bool)(n_9 n_10:Int)(h:H):Prop:=
 fI (wrap .i64 (Cd n_10 (Int.ofNat 1))) fun n78=>
 J.a1 v_0 n_1 v_5 v_6 l_7 c_7 b_8 n_9 n78 h
def Ank(c:CF)(k:KV)(_J:J34)(v_0:AV)(n_1:Int)(v_5 v_6:AV)(l_7 c_7:Nat)(n_9:Int)(h:H):Prop:=
 As 6 v_5 fun v79=>
 ld1 v79 h fun v80=>
 asI .i64 v80 fun n81=>
 cnd (Ba n81 (Int.ofNat 0))
 (As 2 v_5 fun v82=>
 ldn 3 v82 h fun v83=>
 c (.func 36) [v_0,v83] h fun _ h85=>
 fI (wrap .i64 (Cd n_1 (Int.ofNat 1))) fun n86=>
 k (.int .i64 n86) h85)
 (c (.func 63) [v_6] h fun v87 h88=>
 asS v87 fun l89 c90=>
 c (.func 62) [(.str l89 c90)] h88 fun v91 h92=>
 asS v91 fun l93 c94=>
 Abu l_7 c_7 l93 c94 fun l95 c96=>
 As 1 v_5 fun v97=>
 st1 v97 (.str l95 c96) h92 fun h98=>
 oK (Cp v_0 h98) fun v99 h100=>
 As 5 v99 fun v101=>
 ld1 v101 h100 fun v102=>
 ldn 7 v_5 h100 fun v103=>
 oK (Au env 25 (fun e ei=>Ak 1 [(0,v103)] h100 e ei)) fun v104 h105=>
 ld1 v101 h105 fun v106=>
 eqC v106 v102<|
 oK (Az env .append [25,25] [v102,v104] h105) fun v107 h108=>
 oK (Cp v_0 h108) fun v109 h110=>
 As 5 v109 fun v111=>
 st1 v111 v107 h110 fun h112=>
 k (.int .i64 n_9) h112)
def z34:J34:=⟨fun _ _ _=>False,fun _ _ _ _ _ _ _ _ _ _=>False,fun _ _ _ _ _ _ _ _ _ _ _=>False,fun _ _ _ _ _ _ _ _ _ _=>False,fun _ _ _ _ _ _ _ _=>False⟩
def r34(c:CF)(k:KV)(m:Nat):J34:=Nat.rec z34 (fun _ J=>⟨Ano c k J,Ann c k J,Anm c k J,Anl c k J,Ank c k J⟩) m
def f34(J:J34):Jump:=fun L f h=>match L with
 |0=>asI .i64 (f 1) fun n_1=>J.a0 (f 0) n_1 h
 |1=>asI .i64 (f 1) fun n_1=>asS (f 7) fun l_7 c_7=>asB (f 8) fun b_8=>asI .i64 (f 9) fun n_9=>asI .i64 (f 10) fun n_10=>J.a1 (f 0) n_1 (f 5) (f 6) l_7 c_7 b_8 n_9 n_10 h
 |2=>asI .i64 (f 1) fun n_1=>asS (f 7) fun l_7 c_7=>asB (f 8) fun b_8=>asI .i64 (f 10) fun n_10=>asS (f 12) fun l_12 c_12=>J.a2 (f 0) n_1 (f 5) (f 6) l_7 c_7 b_8 n_10 l_12 c_12 h
 |3=>asI .i64 (f 1) fun n_1=>asS (f 7) fun l_7 c_7=>asB (f 8) fun b_8=>asI .i64 (f 9) fun n_9=>asI .i64 (f 10) fun n_10=>J.a3 (f 0) n_1 (f 5) (f 6) l_7 c_7 b_8 n_9 n_10 h
 |4=>asI .i64 (f 1) fun n_1=>asS (f 7) fun l_7 c_7=>asI .i64 (f 9) fun n_9=>J.a4 (f 0) n_1 (f 5) (f 6) l_7 c_7 n_9 h
 |_=>False
def u34:Bm:=[(.root,0),((.l (.r (.l (.r (.r (.r (.r .root))))))),1),((.r (.r (.r (.r (.r (.r (.l (.l (.r (.l (.l (.r (.l (.r (.r (.r (.r .root))))))))))))))))),2),((.r (.r (.l (.l (.r (.l (.r (.r (.r (.r .root)))))))))),3),((.r (.r (.r (.r (.r .root))))),4)]
def d35:Code:=Option.rec .skip (fun c=>c) Tryz.f35.body
def q35:Aw:=[(3,[0,1,2,3,4,5]),(4,[0,1,2,3]),(5,[0,1,2,3]),(9,[0,1,2,3]),(11,[0,1,2,3]),(15,[0,1,2,3])]
structure J35 where
 a0:AV→AV→H→Prop
def Anj(c:CF)(k:KV)(_J:J35)(v_0 v_1:AV)(h:H):Prop:=
 asG v_1 fun g1=>
 chk (Nat.ble 1 (len g1))<|
 Hp.Fi h (rowOf 43 g1) fun p2 h3=>
 As 0 (.ptr p2 0) fun v4=>
 ld1 v4 h3 fun v5=>
 asI .i64 v5 fun n6=>
 cnd (Ba n6 (Int.ofNat 1))
 (oK (Cp v_0 h3) fun v7 h8=>
 As 0 v7 fun v9=>
 As 1 (.ptr p2 0) fun v10=>
 ld1 v10 h8 fun v11=>
 asS v11 fun l12 c13=>
 c (.func 43) [v9,(.str l12 c13)] h8 fun v14 h15=>
 asB v14 fun b16=>
 cnd b16
 (As 1 (.ptr p2 0) fun v17=>
 ld1 v17 h15 fun v18=>
 asS v18 fun l19 c20=>
 k (.tuple [(.int .i64 (Int.ofNat 2)),(.str l19 c20)]) h15)
 (As 1 (.ptr p2 0) fun v21=>
 ld1 v21 h15 fun v22=>
 asS v22 fun l23 c24=>
 k (.tuple [(.int .i64 (Int.ofNat 1)),(.str l23 c24)]) h15))
 (cnd (Ba n6 (Int.ofNat 2))
 (As 1 (.ptr p2 0) fun v25=>
 ld1 v25 h3 fun v26=>
 asS v26 fun l27 c28=>
 c (.func 64) [(.str l27 c28)] h3 fun v29 h30=>
 ext 0 v29 fun v31=>
 ext 1 v29 fun v32=>
 asB v32 fun b33=>
 Hp.Fi h30 Ahs fun p34 h35=>
 stn 2 (.ptr p34 0) v31 h35 fun h36=>
 cnd b33
 (As 1 (.ptr p2 0) fun v37=>
 ld1 v37 h36 fun v38=>
 asS v38 fun l39 c40=>
 k (.tuple [(.int .i64 (Int.ofNat 3)),(.str l39 c40)]) h36)
 (As 1 (.ptr p2 0) fun v41=>
 ld1 v41 h36 fun v42=>
 asS v42 fun l43 c44=>
 c (.func 65) [(.str l43 c44)] h36 fun v45 h46=>
 asB v45 fun b47=>
 cnd b47
 (As 1 (.ptr p2 0) fun v48=>
 ld1 v48 h46 fun v49=>
 asS v49 fun l50 c51=>
 k (.tuple [(.int .i64 (Int.ofNat 4)),(.str l50 c51)]) h46)
 (k (.tuple [(.int .i64 (Int.ofNat 0)),(.str 0 0)]) h46)))
 (cnd (Ba n6 (Int.ofNat 3))
 (As 1 (.ptr p2 0) fun v52=>
 ld1 v52 h3 fun v53=>
 asS v53 fun l54 c55=>
 c (.func 66) [(.str l54 c55)] h3 fun v56 h57=>
 ext 0 v56 fun v58=>
 ext 1 v56 fun v59=>
 asB v59 fun b60=>
 Hp.Fi h57 Ahs fun p61 h62=>
 stn 2 (.ptr p61 0) v58 h62 fun h63=>
 cnd b60
 (As 1 (.ptr p2 0) fun v64=>
 ld1 v64 h63 fun v65=>
 asS v65 fun l66 c67=>
 k (.tuple [(.int .i64 (Int.ofNat 5)),(.str l66 c67)]) h63)
 (k (.tuple [(.int .i64 (Int.ofNat 0)),(.str 0 0)]) h63))
 (cnd (Ba n6 (Int.ofNat 5))
 (ldn 8 (.ptr p2 0) h3 fun v68=>
 c (.func 67) [v68] h3 fun v69 h70=>
 asS v69 fun l71 c72=>
 Ao (fun k73=>gate false (Cn (Bg l71 c72 0 0))
 (As 1 (.ptr p2 0) fun v76=>
 ld1 v76 h70 fun v77=>
 asS v77 fun l78 c79=>
 k73 (Bg l78 c79 0 0) h70)
 (k73 true h70)) fun b75 h74=>
 cnd b75
 (k (.tuple [(.int .i64 (Int.ofNat 7)),(.str l71 c72)]) h74)
 (k (.tuple [(.int .i64 (Int.ofNat 0)),(.str 0 0)]) h74))
 (k (.tuple [(.int .i64 (Int.ofNat 0)),(.str 0 0)]) h3))))
def z35:J35:=⟨fun _ _ _=>False⟩
def r35(c:CF)(k:KV)(m:Nat):J35:=Nat.rec z35 (fun _ J=>⟨Anj c k J⟩) m
def f35(J:J35):Jump:=fun L f h=>match L with
 |0=>J.a0 (f 0) (f 1) h
 |_=>False
def u35:Bm:=[(.root,0)]
def d36:Code:=Option.rec .skip (fun c=>c) Tryz.f36.body
def q36:Aw:=[(1,[0,1,2,3,4,5,6,7,8,9,10,11])]
structure J36 where
 a0:AV→AV→H→Prop
def Ani(_c:CF)(k:KV)(_J:J36)(v_0 v_1:AV)(h:H):Prop:=
 asG v_1 fun g1=>
 chk (Nat.ble 1 (len g1))<|
 Hp.Fi h (rowOf 38 g1) fun p2 h3=>
 oK (Cp v_0 h3) fun v4 h5=>
 As 6 v4 fun v6=>
 ld1 v6 h5 fun v7=>
 ldn 3 (.ptr p2 0) h5 fun v8=>
 oK (Bo env (env.ty 48) [(0,(.int .i64 (Int.ofNat 19))),(1,v8)] h5) fun v9 h10=>
 oK (Au env 26 (fun e ei=>Ak 1 [(0,v9)] h10 e ei)) fun v11 h12=>
 ld1 v6 h12 fun v13=>
 eqC v13 v7<|
 oK (Az env .append [26,26] [v7,v11] h12) fun v14 h15=>
 oK (Cp v_0 h15) fun v16 h17=>
 As 6 v16 fun v18=>
 st1 v18 v14 h17 fun h19=>
 k (.tuple []) h19
def z36:J36:=⟨fun _ _ _=>False⟩
def r36(c:CF)(k:KV)(m:Nat):J36:=Nat.rec z36 (fun _ J=>⟨Ani c k J⟩) m
def f36(J:J36):Jump:=fun L f h=>match L with
 |0=>J.a0 (f 0) (f 1) h
 |_=>False
def u36:Bm:=[(.root,0)]
def d43:Code:=Option.rec .skip (fun c=>c) Tryz.f43.body
def q43:Aw:=[]
structure J43 where
 a0:AV→Nat→Nat→H→Prop
def Ag7(c:CF)(k:KV)(_J:J43)(v_0:AV)(l_1 c_1:Nat)(h:H):Prop:=
 one v_0<|
 Hp.Fi h (rowOf 107 [v_0]) fun p1 h2=>
 ld1 (.ptr p1 0) h2 fun v3=>
 oK (Cp v3 h2) fun v4 h5=>
 As 0 v4 fun v6=>
 c (.func 74) [v6,(.func (.func 75) [] [(.ptr p1 0)])] h5 fun _ h8=>
 ld1 (.ptr p1 0) h8 fun v9=>
 oK (Cp v9 h8) fun v10 h11=>
 As 3 v10 fun v12=>
 ld1 v12 h11 fun v13=>
 oK (Ic env 94 v13 (.str l_1 c_1) false h11) fun v14 h15=>
 asI .i64 v14 fun n16=>
 k (.bool (Cl (Int.ofNat 0) n16)) h15
def z43:J43:=⟨fun _ _ _ _=>False⟩
def r43(c:CF)(k:KV)(m:Nat):J43:=Nat.rec z43 (fun _ J=>⟨Ag7 c k J⟩) m
def f43(J:J43):Jump:=fun L f h=>match L with
 |0=>asS (f 1) fun l_1 c_1=>J.a0 (f 0) l_1 c_1 h
 |_=>False
def u43:Bm:=[(.root,0)]
def d46:Code:=Option.rec .skip (fun c=>c) Tryz.f46.body
def q46:Aw:=[(20,[0,1,2,3,4,5,6,7,8,9,10,11,12,13,14,15,16,17]),(27,[0,1,2,3,4,5,6,7,8,9,10,11,12,13,14]),(28,[0,1,2,3,4,5,6,8,9,7,10,11,12,13,14])]
def u46:Bm:=[(.root,0),((.l (.r (.l (.r (.r (.r (.r (.r (.r .root))))))))),1),((.r (.r (.r (.r (.r (.r (.r (.r (.l (.r (.l (.l (.r (.l (.r (.r (.r (.r (.r (.r .root)))))))))))))))))))),2),((.r (.r (.r (.r (.r (.r (.r (.r .root)))))))),3),((.r (.l (.r (.l (.l (.r (.l (.r (.r (.r (.l (.r (.l (.l (.r (.l (.r (.r (.r (.r (.r (.r .root)))))))))))))))))))))),4),((.r (.r (.r (.r (.r (.l (.r (.l (.l (.r (.l (.r (.r (.r (.r (.r (.r .root))))))))))))))))),5)]
def d59:Code:=Option.rec .skip (fun c=>c) Tryz.f59.body
def q59:Aw:=[(5,[0,1,2,3,4,5,6,7,8,9,10,11,12,13,14,15,16]),(9,[0,1,2,3,4,5])]
structure J59 where
 a0:Nat→Nat→H→Prop
 a1:Nat→Nat→AV→Nat→Nat→H→Prop
 a2:H→Prop
 a3:Nat→Nat→AV→Nat→Nat→Int→Int→H→Prop
def Amw(c:CF)(k:KV)(J:J59)(l_0 c_0:Nat)(h:H):Prop:=
 Hp.Fi h Wx fun p1 h2=>
 c (.func 60) [(.str l_0 c_0)] h2 fun v3 h4=>
 ext 0 v3 fun v5=>
 asS v5 fun l6 _=>
 ext 1 v3 fun v8=>
 asB v8 fun b9=>
 Fm l_0 c_0 l6 l_0 fun l10 c11=>
 Ao (fun k12=>gate false (Cn b9)
 (k12 (Cl (Int.ofNat l10) (Int.ofNat 2)) h4)
 (k12 true h4)) fun b14 h13=>
 Ao (fun k15=>gate false b14
 (fI (wrap .i64 (Hw (Int.ofNat l10) (Int.ofNat 1))) fun n18=>
 Bz n18 fun m19=>
 Ci l10 c11 m19 fun m20=>
 Ci l10 c11 0 fun m21=>
 k15 (Cn (Ba (Int.ofNat m20) (Int.ofNat m21))) h13)
 (k15 true h13)) fun b17 h16=>
 cnd b17
 (J.a2 h16)
 (fI (wrap .i64 (Hw (Int.ofNat l10) (Int.ofNat 1))) fun n22=>
 Bz n22 fun m23=>
 Fm l10 c11 1 m23 fun l24 c25=>
 cnd (Bg l24 c25 0 0)
 (c (.func 63) [(.ptr p1 0)] h16 fun v26 h27=>
 asS v26 fun l28 c29=>
 k (.tuple [(.str l28 c29),(.bool true)]) h27)
 (Ci l24 c25 0 fun m30=>
 Ci l10 c11 0 fun m31=>
 cnd (Ba (Int.ofNat m30) (Int.ofNat m31))
 (J.a2 h16)
 (Ci l24 c25 0 fun m32=>
 cnd (Cn (Ba (Int.ofNat m32) (Int.ofNat 92)))
 (Ci l24 c25 0 fun m33=>
 c (.func 107) [(.ptr p1 0),(.int .u8 (Int.ofNat m33))] h16 fun _ h35=>
 Fm l24 c25 1 l24 fun l36 c37=>
 J.a1 l10 c11 (.ptr p1 0) l36 c37 h35)
 (Fm l24 c25 1 l24 fun l38 c39=>
 c (.func 108) [(.str l38 c39)] h16 fun v40 h41=>
 ext 0 v40 fun v42=>
 asI .u8 v42 fun n43=>
 ext 1 v40 fun v44=>
 asI .i64 v44 fun n45=>
 J.a3 l10 c11 (.ptr p1 0) l24 c25 n43 n45 h41))))
def Ag6(c:CF)(k:KV)(J:J59)(l_0 c_0:Nat)(v_4:AV)(l_5 c_5:Nat)(h:H):Prop:=
 cnd (Bg l_5 c_5 0 0)
 (c (.func 63) [v_4] h fun v46 h47=>
 asS v46 fun l48 c49=>
 k (.tuple [(.str l48 c49),(.bool true)]) h47)
 (Ci l_5 c_5 0 fun m50=>
 Ci l_0 c_0 0 fun m51=>
 cnd (Ba (Int.ofNat m50) (Int.ofNat m51))
 (J.a2 h)
 (Ci l_5 c_5 0 fun m52=>
 cnd (Cn (Ba (Int.ofNat m52) (Int.ofNat 92)))
 (Ci l_5 c_5 0 fun m53=>
 c (.func 107) [v_4,(.int .u8 (Int.ofNat m53))] h fun _ h55=>
 Fm l_5 c_5 1 l_5 fun l56 c57=>
 J.a1 l_0 c_0 v_4 l56 c57 h55)
 (Fm l_5 c_5 1 l_5 fun l58 c59=>
 c (.func 108) [(.str l58 c59)] h fun v60 h61=>
 ext 0 v60 fun v62=>
 asI .u8 v62 fun n63=>
 ext 1 v60 fun v64=>
 asI .i64 v64 fun n65=>
 cnd (Cl (Int.ofNat 0) n65)
 (c (.func 107) [v_4,(.int .u8 n63)] h61 fun _ h67=>
 fI (wrap .i64 (Cd (Int.ofNat 1) n65)) fun n68=>
 Bz n68 fun m69=>
 Fm l_5 c_5 m69 l_5 fun l70 c71=>
 J.a1 l_0 c_0 v_4 l70 c71 h67)
 (k (.tuple [(.str 0 0),(.bool false)]) h61))))
def Ag5(_c:CF)(k:KV)(_J:J59)(h:H):Prop:=
 k (.tuple [(.str 0 0),(.bool false)]) h
def Amv(c:CF)(k:KV)(J:J59)(l_0 c_0:Nat)(v_4:AV)(l_5 c_5:Nat)(n_8 n_9:Int)(h:H):Prop:=
 cnd (Cl (Int.ofNat 0) n_9)
 (c (.func 107) [v_4,(.int .u8 n_8)] h fun _ h73=>
 fI (wrap .i64 (Cd (Int.ofNat 1) n_9)) fun n74=>
 Bz n74 fun m75=>
 Fm l_5 c_5 m75 l_5 fun l76 c77=>
 J.a1 l_0 c_0 v_4 l76 c77 h73)
 (k (.tuple [(.str 0 0),(.bool false)]) h)
def z59:J59:=⟨fun _ _ _=>False,fun _ _ _ _ _ _=>False,fun _=>False,fun _ _ _ _ _ _ _ _=>False⟩
def r59(c:CF)(k:KV)(m:Nat):J59:=Nat.rec z59 (fun _ J=>⟨Amw c k J,Ag6 c k J,Ag5 c k J,Amv c k J⟩) m
def f59(J:J59):Jump:=fun L f h=>match L with
 |0=>asS (f 0) fun l_0 c_0=>J.a0 l_0 c_0 h
 |1=>asS (f 0) fun l_0 c_0=>asS (f 5) fun l_5 c_5=>J.a1 l_0 c_0 (f 4) l_5 c_5 h
 |2=>J.a2 h
 |3=>asS (f 0) fun l_0 c_0=>asS (f 5) fun l_5 c_5=>asI .u8 (f 8) fun n_8=>asI .i64 (f 9) fun n_9=>J.a3 l_0 c_0 (f 4) l_5 c_5 n_8 n_9 h
 |_=>False
def u59:Bm:=[(.root,0),((.lab (.r .root) 1),1),((.lab (.r .root) 0),2),((.r (.l (.r (.r (.r (.r (.r (.r (.r (.l (.r .root))))))))))),3)]
def d60:Code:=Option.rec .skip (fun c=>c) Tryz.f60.body
def q60:Aw:=[]
structure J60 where
 a0:Nat→Nat→H→Prop
 a1:Nat→Nat→AV→Int→Int→H→Prop
def Amu(_c:CF)(_k:KV)(J:J60)(l_0 c_0:Nat)(h:H):Prop:=
 oK (Au env 44 (fun e ei=>Ak 5 [(0,(.str 0 0)),(1,(.str 1 76)),(2,(.str 1 117)),(3,(.str 1 85)),(4,(.str 2 14453))] h e ei)) fun v1 h2=>
 Gn v1 fun m3=>
 J.a1 l_0 c_0 v1 (Int.ofNat m3) (Int.ofNat 0) h2
def Amt(c:CF)(k:KV)(J:J60)(l_0 c_0:Nat)(v_8:AV)(n_9 n_10:Int)(h:H):Prop:=
 cnd (Cl n_10 n_9)
 (Bz n_10 fun m4=>
 Dd 1 m4 v_8 fun v5=>
 ld1 v5 h fun v6=>
 asS v6 fun l7 c8=>
 c (.func 109) [(.str l_0 c_0),(.str l7 c8)] h fun v9 h10=>
 ext 0 v9 fun v11=>
 asS v11 fun l12 c13=>
 ext 1 v9 fun v14=>
 asB v14 fun b15=>
 Ao (fun k16=>gate true b15
 (k16 (Cn (Bg l12 c13 0 0)) h10)
 (k16 false h10)) fun b18 h17=>
 Ao (fun k19=>gate true b18
 (Ci l12 c13 0 fun m22=>
 Ao (fun k23=>gate false (Ba (Int.ofNat m22) (Int.ofNat 34))
 (Ci l12 c13 0 fun m26=>
 k23 (Ba (Int.ofNat m26) (Int.ofNat 39)) h17)
 (k23 true h17)) fun b25 h24=>
 k19 b25 h24)
 (k19 false h17)) fun b21 h20=>
 cnd b21
 (k (.tuple [(.str l7 c8),(.bool true)]) h20)
 (fI (wrap .i64 (Cd n_10 (Int.ofNat 1))) fun n27=>
 J.a1 l_0 c_0 v_8 n_9 n27 h20))
 (k (.tuple [(.str 0 0),(.bool false)]) h)
def z60:J60:=⟨fun _ _ _=>False,fun _ _ _ _ _ _=>False⟩
def r60(c:CF)(k:KV)(m:Nat):J60:=Nat.rec z60 (fun _ J=>⟨Amu c k J,Amt c k J⟩) m
def f60(J:J60):Jump:=fun L f h=>match L with
 |0=>asS (f 0) fun l_0 c_0=>J.a0 l_0 c_0 h
 |1=>asS (f 0) fun l_0 c_0=>asI .i64 (f 9) fun n_9=>asI .i64 (f 10) fun n_10=>J.a1 l_0 c_0 (f 8) n_9 n_10 h
 |_=>False
def u60:Bm:=[(.root,0),((.l (.r (.l (.r .root)))),1)]
def d61:Code:=Option.rec .skip (fun c=>c) Tryz.f61.body
def q61:Aw:=[]
structure J61 where
 a0:AV→Nat→Nat→H→Prop
def Ag4(c:CF)(k:KV)(_J:J61)(v_0:AV)(l_1 c_1:Nat)(h:H):Prop:=
 c (.func 110) [v_0] h fun _ h2=>
 oK (Cp v_0 h2) fun v3 h4=>
 As 1 v3 fun v5=>
 ld1 v5 h4 fun v6=>
 oK (Az env .append [115,9] [v6,(.str l_1 c_1)] h4) fun v7 h8=>
 oK (Cp v_0 h8) fun v9 h10=>
 As 1 v9 fun v11=>
 st1 v11 v7 h10 fun h12=>
 k (.tuple [(.int .i64 (Int.ofNat l_1)),.Ia]) h12
def z61:J61:=⟨fun _ _ _ _=>False⟩
def r61(c:CF)(k:KV)(m:Nat):J61:=Nat.rec z61 (fun _ J=>⟨Ag4 c k J⟩) m
def f61(J:J61):Jump:=fun L f h=>match L with
 |0=>asS (f 1) fun l_1 c_1=>J.a0 (f 0) l_1 c_1 h
 |_=>False
def u61:Bm:=[(.root,0)]
def d62:Code:=Option.rec .skip (fun c=>c) Tryz.f62.body
def q62:Aw:=[]
structure J62 where
 a0:Nat→Nat→H→Prop
def Ams(c:CF)(k:KV)(_J:J62)(l_0 c_0:Nat)(h:H):Prop:=
 c (.func 111) [(.str l_0 c_0)] h fun v1 h2=>
 asS v1 fun l3 c4=>
 Abu 1 34 l3 c4 fun l5 c6=>
 Abu l5 c6 1 34 fun l7 c8=>
 k (.str l7 c8) h2
def z62:J62:=⟨fun _ _ _=>False⟩
def r62(c:CF)(k:KV)(m:Nat):J62:=Nat.rec z62 (fun _ J=>⟨Ams c k J⟩) m
def f62(J:J62):Jump:=fun L f h=>match L with
 |0=>asS (f 0) fun l_0 c_0=>J.a0 l_0 c_0 h
 |_=>False
def u62:Bm:=[(.root,0)]
def d63:Code:=Option.rec .skip (fun c=>c) Tryz.f63.body
def q63:Aw:=[(1,[0,1,2,3,4,5,6,7,8,9,10,11])]
structure J63 where
 a0:AV→H→Prop
def Ag3(_c:CF)(k:KV)(_J:J63)(v_0:AV)(h:H):Prop:=
 oK (Cp v_0 h) fun v1 h2=>
 As 1 v1 fun v3=>
 ld1 v3 h2 fun v4=>
 oK (Az env .unsafeSliceData [115] [v4] h2) fun v5 h6=>
 oK (Cp v_0 h6) fun v7 h8=>
 As 1 v7 fun v9=>
 ld1 v9 h8 fun v10=>
 Gn v10 fun m11=>
 oK (Az env .unsafeString [225,3] [v5,(.int .i64 (Int.ofNat m11))] h8) fun v12 h13=>
 asS v12 fun l14 c15=>
 k (.str l14 c15) h13
def z63:J63:=⟨fun _ _=>False⟩
def r63(c:CF)(k:KV)(m:Nat):J63:=Nat.rec z63 (fun _ J=>⟨Ag3 c k J⟩) m
def f63(J:J63):Jump:=fun L f h=>match L with
 |0=>J.a0 (f 0) h
 |_=>False
def u63:Bm:=[(.root,0)]
def d64:Code:=Option.rec .skip (fun c=>c) Tryz.f64.body
def q64:Aw:=[(5,[0,1,2,3,4])]
structure J64 where
 a0:Nat→Nat→H→Prop
 a1:AV→Nat→Nat→Bool→Bool→Int→Nat→Nat→H→Prop
def Amr(c:CF)(_k:KV)(J:J64)(l_0 c_0:Nat)(h:H):Prop:=
 Hp.Fi h Ahs fun p1 h2=>
 c (.func 112) [(.str l_0 c_0),(.str 4 1282168181)] h2 fun v3 h4=>
 asS v3 fun l5 c6=>
 Fm l_0 c_0 l5 l_0 fun l7 c8=>
 c (.func 113) [(.str l7 c8)] h4 fun v9 h10=>
 ext 0 v9 fun v11=>
 asB v11 fun b12=>
 ext 1 v9 fun v13=>
 asB v13 fun b14=>
 c (.func 114) [(.str l5 c6)] h10 fun v15 h16=>
 asB v15 fun b17=>
 cnd b17
 (Fm l5 c6 2 l5 fun l18 c19=>
 J.a1 (.ptr p1 0) l18 c19 b12 b14 (Int.ofNat 16) 22 26291342665239622251265189840170011249128153612955952 h16)
 (c (.func 115) [(.str l5 c6),(.str 1 48)] h16 fun v20 h21=>
 asB v20 fun b22=>
 cnd b22
 (J.a1 (.ptr p1 0) l5 c6 b12 b14 (Int.ofNat 8) 8 3978425819141910832 h21)
 (J.a1 (.ptr p1 0) l5 c6 b12 b14 (Int.ofNat 10) 10 270211885617516653982000 h21))
def Amq(c:CF)(k:KV)(_J:J64)(v_2:AV)(l_4 c_4:Nat)(b_5 b_6:Bool)(n_7:Int)(l_8 c_8:Nat)(h:H):Prop:=
 Ao (fun k23=>gate false (Cn b_6)
 (k23 (Bg l_4 c_4 0 0) h)
 (k23 true h)) fun b25 h24=>
 Ao (fun k26=>gate false b25
 (c (.func 116) [(.str l_4 c_4),(.str l_8 c_8)] h24 fun v29 h30=>
 asI .i64 v29 fun n31=>
 k26 (Cn (Ba n31 (Int.ofNat l_4))) h30)
 (k26 true h24)) fun b28 h27=>
 cnd b28
 (oK (Bo env (env.ty 55) [] h27) fun v32 h33=>
 stn 2 v_2 v32 h33 fun h34=>
 ldn 2 v_2 h34 fun v35=>
 k (.tuple [v35,(.bool false)]) h34)
 (c (.func 117) [(.str l_4 c_4),(.int .i64 n_7),(.int .i64 (Int.ofNat 64))] h27 fun v36 h37=>
 ext 0 v36 fun v38=>
 asI .u64 v38 fun n39=>
 ext 1 v36 fun v40=>
 oV (Jk env .neq 151 v40 .Ia) fun v41=>
 asB v41 fun b42=>
 cnd b42
 (oK (Bo env (env.ty 55) [] h37) fun v43 h44=>
 stn 2 v_2 v43 h44 fun h45=>
 ldn 2 v_2 h45 fun v46=>
 k (.tuple [v46,(.bool false)]) h45)
 (Ao (fun k47=>gate false b_5
 (k47 (Cl (Int.ofNat 9223372036854775807) n39) h37)
 (k47 true h37)) fun b49 h48=>
 oK (Bo env (env.ty 55) [(0,(.int .u64 n39)),(1,(.bool b49))] h48) fun v50 h51=>
 stn 2 v_2 v50 h51 fun h52=>
 ldn 2 v_2 h52 fun v53=>
 k (.tuple [v53,(.bool true)]) h52))
def z64:J64:=⟨fun _ _ _=>False,fun _ _ _ _ _ _ _ _ _=>False⟩
def r64(c:CF)(k:KV)(m:Nat):J64:=Nat.rec z64 (fun _ J=>⟨Amr c k J,Amq c k J⟩) m
def f64(J:J64):Jump:=fun L f h=>match L with
 |0=>asS (f 0) fun l_0 c_0=>J.a0 l_0 c_0 h
 |1=>asS (f 4) fun l_4 c_4=>asB (f 5) fun b_5=>asB (f 6) fun b_6=>asI .i64 (f 7) fun n_7=>asS (f 8) fun l_8 c_8=>J.a1 (f 2) l_4 c_4 b_5 b_6 n_7 l_8 c_8 h
 |_=>False
def u64:Bm:=[(.root,0),((.r (.r (.r (.r (.r .root))))),1)]
def d65:Code:=Option.rec .skip (fun c=>c) Tryz.f65.body
def q65:Aw:=[(3,[0,1,2,3,4]),(9,[0,1,2,3,4,5,6,7,8])]
structure J65 where
 a0:Nat→Nat→H→Prop
 a1:Nat→Nat→Nat→Nat→Nat→Nat→Int→Bool→H→Prop
 a2:Nat→Nat→Nat→Nat→Nat→Nat→H→Prop
def Amp(c:CF)(_k:KV)(J:J65)(l_0 c_0:Nat)(h:H):Prop:=
 c (.func 114) [(.str l_0 c_0)] h fun v1 h2=>
 asB v1 fun b3=>
 cnd b3
 (Fm l_0 c_0 2 l_0 fun l4 c5=>
 J.a2 22 26291342665239622251265189840170011249128153612955952 2 20592 l4 c5 h2)
 (J.a2 10 270211885617516653982000 2 17765 l_0 c_0 h2)
def Amo(c:CF)(k:KV)(_J:J65)(l_3 c_3:Nat)(l_4 c_4:Nat)(l_5 c_5:Nat)(n_6:Int)(b_7:Bool)(h:H):Prop:=
 c (.func 118) [(.str l_5 c_5),(.str l_4 c_4)] h fun v6 h7=>
 ext 0 v6 fun v8=>
 asS v8 fun l9 c10=>
 ext 1 v6 fun v11=>
 asB v11 fun b12=>
 Ao (fun k13=>gate false (Ba n_6 (Int.ofNat 0))
 (Ao (fun k16=>gate true (Cn b12)
 (Ao (fun k19=>gate false (Cn b_7)
 (k19 (Bg l_3 c_3 22 26291342665239622251265189840170011249128153612955952) h7)
 (k19 true h7)) fun b21 h20=>
 k16 b21 h20)
 (k16 false h7)) fun b18 h17=>
 k13 b18 h17)
 (k13 true h7)) fun b15 h14=>
 cnd b15
 (k (.bool false) h14)
 (Ao (fun k22=>gate false (Bg l9 c10 0 0)
 (k22 (Bg l9 c10 1 102) h14)
 (k22 true h14)) fun b24 h23=>
 Ao (fun k25=>gate false b24
 (k25 (Bg l9 c10 1 70) h23)
 (k25 true h23)) fun b27 h26=>
 Ao (fun k28=>gate false b27
 (k28 (Bg l9 c10 1 108) h26)
 (k28 true h26)) fun b30 h29=>
 Ao (fun k31=>gate false b30
 (k31 (Bg l9 c10 1 76) h29)
 (k31 true h29)) fun b33 h32=>
 k (.bool b33) h32)
def Amn(c:CF)(_k:KV)(J:J65)(l_3 c_3:Nat)(l_4 c_4:Nat)(l_5 c_5:Nat)(h:H):Prop:=
 c (.func 116) [(.str l_5 c_5),(.str l_3 c_3)] h fun v34 h35=>
 asI .i64 v34 fun n36=>
 Bz n36 fun m37=>
 Fm l_5 c_5 m37 l_5 fun l38 c39=>
 c (.func 115) [(.str l38 c39),(.str 1 46)] h35 fun v40 h41=>
 asB v40 fun b42=>
 cnd b42
 (Fm l38 c39 1 l38 fun l43 c44=>
 c (.func 116) [(.str l43 c44),(.str l_3 c_3)] h41 fun v45 h46=>
 asI .i64 v45 fun n47=>
 fI (wrap .i64 (Cd n36 n47)) fun n48=>
 fI (wrap .i64 (Cd (Int.ofNat 1) n47)) fun n49=>
 Bz n49 fun m50=>
 Fm l38 c39 m50 l38 fun l51 c52=>
 J.a1 l_3 c_3 l_4 c_4 l51 c52 n48 b42 h46)
 (J.a1 l_3 c_3 l_4 c_4 l38 c39 n36 b42 h41)
def z65:J65:=⟨fun _ _ _=>False,fun _ _ _ _ _ _ _ _ _=>False,fun _ _ _ _ _ _ _=>False⟩
def r65(c:CF)(k:KV)(m:Nat):J65:=Nat.rec z65 (fun _ J=>⟨Amp c k J,Amo c k J,Amn c k J⟩) m
def f65(J:J65):Jump:=fun L f h=>match L with
 |0=>asS (f 0) fun l_0 c_0=>J.a0 l_0 c_0 h
 |1=>asS (f 3) fun l_3 c_3=>asS (f 4) fun l_4 c_4=>asS (f 5) fun l_5 c_5=>asI .i64 (f 6) fun n_6=>asB (f 7) fun b_7=>J.a1 l_3 c_3 l_4 c_4 l_5 c_5 n_6 b_7 h
 |2=>asS (f 3) fun l_3 c_3=>asS (f 4) fun l_4 c_4=>asS (f 5) fun l_5 c_5=>J.a2 l_3 c_3 l_4 c_4 l_5 c_5 h
 |_=>False
def u65:Bm:=[(.root,0),((.r (.r (.r (.r (.r (.r (.r .root))))))),1),((.r (.r (.r .root))),2)]
def d66:Code:=Option.rec .skip (fun c=>c) Tryz.f66.body
def q66:Aw:=[]
structure J66 where
 a0:Nat→Nat→H→Prop
 a1:AV→Nat→Nat→Nat→Nat→Int→Int→Int→H→Prop
 a2:AV→Nat→Nat→Int→H→Prop
def Amm(c:CF)(k:KV)(J:J66)(l_0 c_0:Nat)(h:H):Prop:=
 Hp.Fi h Ahs fun p1 h2=>
 c (.func 59) [(.str l_0 c_0)] h2 fun v3 h4=>
 ext 0 v3 fun v5=>
 asS v5 fun l6 c7=>
 ext 1 v3 fun v8=>
 asB v8 fun b9=>
 c (.func 60) [(.str l_0 c_0)] h4 fun v10 h11=>
 ext 0 v10 fun v12=>
 asS v12 fun l13 c14=>
 ext 1 v10 fun v15=>
 asB v15 fun _=>
 Ao (fun k17=>gate false (Cn b9)
 (k17 (Bg l13 c14 2 14453) h11)
 (k17 true h11)) fun b19 h18=>
 Ao (fun k20=>gate false b19
 (Ci l_0 c_0 l13 fun m23=>
 k20 (Cn (Ba (Int.ofNat m23) (Int.ofNat 39))) h18)
 (k20 true h18)) fun b22 h21=>
 Ao (fun k24=>gate false b22
 (k24 (Bg l6 c7 0 0) h21)
 (k24 true h21)) fun b26 h25=>
 Ao (fun k27=>gate false b26
 (k27 (Cl (Int.ofNat 8) (Int.ofNat l6)) h25)
 (k27 true h25)) fun b29 h28=>
 cnd b29
 (oK (Bo env (env.ty 55) [] h28) fun v30 h31=>
 stn 2 (.ptr p1 0) v30 h31 fun h32=>
 ldn 2 (.ptr p1 0) h32 fun v33=>
 k (.tuple [v33,(.bool false)]) h32)
 (Ci l6 c7 0 fun m34=>
 fI (wrap .i8 (Int.ofNat m34)) fun n35=>
 fI (wrap .i64 n35) fun n36=>
 cnd (Cl (Int.ofNat 1) (Int.ofNat l6))
 (J.a1 (.ptr p1 0) l6 c7 l13 c14 (Int.ofNat 0) (Int.ofNat l6) (Int.ofNat 0) h28)
 (J.a2 (.ptr p1 0) l13 c14 n36 h28))
def Aml(_c:CF)(_k:KV)(J:J66)(v_2:AV)(l_4 c_4:Nat)(l_6 c_6:Nat)(n_9 n_52 n_53:Int)(h:H):Prop:=
 cnd (Cl n_53 n_52)
 (Ap2 .u32 n_9 (Int.ofNat 8) fun n37=>
 Bz n_53 fun m38=>
 Ci l_4 c_4 m38 fun m39=>
 fI (wrap .u32 (Int.ofNat m39)) fun n40=>
 Abw Nat.lor .u32 n37 n40 fun n41=>
 fI (wrap .i64 (Cd n_53 (Int.ofNat 1))) fun n42=>
 J.a1 v_2 l_4 c_4 l_6 c_6 n41 n_52 n42 h)
 (fI (wrap .i32 n_9) fun n43=>
 fI (wrap .i64 n43) fun n44=>
 J.a2 v_2 l_6 c_6 n44 h)
def Amk(_c:CF)(k:KV)(_J:J66)(v_2:AV)(l_6 c_6:Nat)(n_8:Int)(h:H):Prop:=
 fI (wrap .u64 n_8) fun n45=>
 Ao (fun k46=>gate false (Bg l_6 c_6 1 117)
 (k46 (Bg l_6 c_6 1 85) h)
 (k46 true h)) fun b48 h47=>
 oK (Bo env (env.ty 55) [(0,(.int .u64 n45)),(1,(.bool b48))] h47) fun v49 h50=>
 stn 2 v_2 v49 h50 fun h51=>
 ldn 2 v_2 h51 fun v52=>
 k (.tuple [v52,(.bool true)]) h51
def z66:J66:=⟨fun _ _ _=>False,fun _ _ _ _ _ _ _ _ _=>False,fun _ _ _ _ _=>False⟩
def r66(c:CF)(k:KV)(m:Nat):J66:=Nat.rec z66 (fun _ J=>⟨Amm c k J,Aml c k J,Amk c k J⟩) m
def f66(J:J66):Jump:=fun L f h=>match L with
 |0=>asS (f 0) fun l_0 c_0=>J.a0 l_0 c_0 h
 |1=>asS (f 4) fun l_4 c_4=>asS (f 6) fun l_6 c_6=>asI .u32 (f 9) fun n_9=>asI .i64 (f 52) fun n_52=>asI .i64 (f 53) fun n_53=>J.a1 (f 2) l_4 c_4 l_6 c_6 n_9 n_52 n_53 h
 |2=>asS (f 6) fun l_6 c_6=>asI .i64 (f 8) fun n_8=>J.a2 (f 2) l_6 c_6 n_8 h
 |_=>False
def u66:Bm:=[(.root,0),((.l (.r (.l (.r (.l (.r (.l (.r (.r (.r (.r (.r .root)))))))))))),1),((.r (.r (.r (.r (.r (.r .root)))))),2)]
def d67:Code:=Option.rec .skip (fun c=>c) Tryz.f67.body
def q67:Aw:=[]
structure J67 where
 a0:AV→H→Prop
def Amj(c:CF)(k:KV)(_J:J67)(v_0:AV)(h:H):Prop:=
 asG v_0 fun g1=>
 chk (Nat.ble 1 (len g1))<|
 Hp.Fi h (rowOf 43 g1) fun p2 h3=>
 As 1 (.ptr p2 0) fun v4=>
 ld1 v4 h3 fun v5=>
 asS v5 fun l6 c7=>
 cnd (Bg l6 c7 2 14908)
 (k (.str 1 91) h3)
 (cnd (Bg l6 c7 2 15930)
 (k (.str 1 93) h3)
 (cnd (Bg l6 c7 2 9532)
 (k (.str 1 123) h3)
 (cnd (Bg l6 c7 2 15909)
 (k (.str 1 125) h3)
 (ldn 8 (.ptr p2 0) h3 fun v8=>
 c (.func 119) [v8] h3 fun v9 h10=>
 asB v9 fun b11=>
 Ao (fun k12=>gate false b11
 (ldn 8 (.ptr p2 0) h10 fun v15=>
 c (.func 120) [v15] h10 fun v16 h17=>
 asB v16 fun b18=>
 k12 b18 h17)
 (k12 true h10)) fun b14 h13=>
 cnd b14
 (k (.str 0 0) h13)
 (As 1 (.ptr p2 0) fun v19=>
 ld1 v19 h13 fun v20=>
 asS v20 fun l21 c22=>
 k (.str l21 c22) h13)))))
def z67:J67:=⟨fun _ _=>False⟩
def r67(c:CF)(k:KV)(m:Nat):J67:=Nat.rec z67 (fun _ J=>⟨Amj c k J⟩) m
def f67(J:J67):Jump:=fun L f h=>match L with
 |0=>J.a0 (f 0) h
 |_=>False
def u67:Bm:=[(.root,0)]
def d74:Code:=Option.rec .skip (fun c=>c) Tryz.f74.body
def q74:Aw:=[]
structure J74 where
 a0:AV→AV→H→Prop
def Al4(c:CF)(k:KV)(_J:J74)(v_0 v_1:AV)(h:H):Prop:=
 oK (Cp v_0 h) fun v1 h2=>
 As 0 v1 fun v3=>
 c (.func 122) [v3] h2 fun v4 h5=>
 asB v4 fun b6=>
 cnd (Cn b6)
 (c (.func 123) [v_0,v_1] h5 fun _ h8=>
 k (.tuple []) h8)
 (k (.tuple []) h5)
def z74:J74:=⟨fun _ _ _=>False⟩
def r74(c:CF)(k:KV)(m:Nat):J74:=Nat.rec z74 (fun _ J=>⟨Al4 c k J⟩) m
def f74(J:J74):Jump:=fun L f h=>match L with
 |0=>J.a0 (f 0) (f 1) h
 |_=>False
def u74:Bm:=[(.root,0)]
def d75:Code:=Option.rec .skip (fun c=>c) Tryz.f75.body
def q75:Aw:=[(4294967294,[0]),(4294967295,[15])]
def u75:Bm:=[(.root,0)]
def d76:Code:=Option.rec .skip (fun c=>c) Tryz.f76.body
def q76:Aw:=[]
def u76:Bm:=[(.root,0)]
def d77:Code:=Option.rec .skip (fun c=>c) Tryz.f77.body
def q77:Aw:=[]
def u77:Bm:=[(.root,0)]
def d78:Code:=Option.rec .skip (fun c=>c) Tryz.f78.body
def q78:Aw:=[]
def u78:Bm:=[(.root,0)]
def d79:Code:=Option.rec .skip (fun c=>c) Tryz.f79.body
def q79:Aw:=[]
def u79:Bm:=[(.root,0),((.l (.l (.r (.l (.r (.l (.r (.r .root)))))))),1),((.l (.r (.l (.r (.r (.r (.r .root))))))),2)]
def d80:Code:=Option.rec .skip (fun c=>c) Tryz.f80.body
def q80:Aw:=[]
def u80:Bm:=[(.root,0),((.l (.l (.r (.l (.r (.l (.r (.r (.r .root))))))))),1),((.r (.r (.r .root))),2)]
def d81:Code:=Option.rec .skip (fun c=>c) Tryz.f81.body
def q81:Aw:=[]
def u81:Bm:=[(.root,0),((.l (.r (.l (.r (.r .root))))),1)]
def d107:Code:=Option.rec .skip (fun c=>c) Tryz.f107.body
def Bba:Aw:=[]
structure Axs where
 a0:AV→Int→H→Prop
def Ae7(c:CF)(k:KV)(_J:Axs)(v_0:AV)(n_1:Int)(h:H):Prop:=
 c (.func 110) [v_0] h fun _ h2=>
 oK (Cp v_0 h2) fun v3 h4=>
 As 1 v3 fun v5=>
 ld1 v5 h4 fun v6=>
 oK (Au env 115 (fun e ei=>Ak 1 [(0,(.int .u8 n_1))] h4 e ei)) fun v7 h8=>
 oK (Az env .append [115,115] [v6,v7] h8) fun v9 h10=>
 oK (Cp v_0 h10) fun v11 h12=>
 As 1 v11 fun v13=>
 st1 v13 v9 h12 fun h14=>
 k .Ia h14
def z107:Axs:=⟨fun _ _ _=>False⟩
def As7(c:CF)(k:KV)(m:Nat):Axs:=Nat.rec z107 (fun _ J=>⟨Ae7 c k J⟩) m
def f107(J:Axs):Jump:=fun L f h=>match L with
 |0=>asI .u8 (f 1) fun n_1=>J.a0 (f 0) n_1 h
 |_=>False
def A94:Bm:=[(.root,0)]
def d108:Code:=Option.rec .skip (fun c=>c) Tryz.f108.body
def Aye:Aw:=[]
structure Agm where
 a0:Nat→Nat→H→Prop
 a1:Int→Int→Int→AV→H→Prop
 a2:Nat→Nat→Int→Int→Int→H→Prop
def Ae6(c:CF)(k:KV)(J:Agm)(l_0 c_0:Nat)(h:H):Prop:=
 cnd (Bg l_0 c_0 0 0)
 (k (.tuple [(.int .u8 (Int.ofNat 0)),(.int .i64 (Int.ofNat 0))]) h)
 (Ci l_0 c_0 0 fun m1=>
 c (.func 160) [(.str 11 143203152110517486444552743),(.int .u8 (Int.ofNat m1))] h fun v2 h3=>
 asI .i64 v2 fun n4=>
 cnd (Fw (Int.ofNat 0) n4)
 (Bz n4 fun m5=>
 Ci 11 13340925845742173758104103 m5 fun m6=>
 k (.tuple [(.int .u8 (Int.ofNat m6)),(.int .i64 (Int.ofNat 1))]) h3)
 (c (.func 116) [(.str l_0 c_0),(.str 8 3978425819141910832)] h3 fun v7 h8=>
 asI .i64 v7 fun n9=>
 oK (Az env .min [3,3] [(.int .i64 n9),(.int .i64 (Int.ofNat 3))] h8) fun v10 h11=>
 asI .i64 v10 fun n12=>
 Ci l_0 c_0 0 fun m13=>
 cnd (Ba (Int.ofNat m13) (Int.ofNat 120))
 (Fm l_0 c_0 1 l_0 fun l14 c15=>
 c (.func 116) [(.str l14 c15),(.str 22 26291342665239622251265189840170011249128153612955952)] h11 fun v16 h17=>
 asI .i64 v16 fun n18=>
 fI (wrap .i64 (Cd (Int.ofNat 1) n18)) fun n19=>
 J.a2 l_0 c_0 n19 (Int.ofNat 16) (Int.ofNat 1) h17)
 (J.a2 l_0 c_0 n12 (Int.ofNat 8) (Int.ofNat 0) h11)))
def Ae5(c:CF)(k:KV)(J:Agm)(n_5 n_6 n_8:Int)(v_38:AV)(h:H):Prop:=
 oK (Td v_38 true h) fun v20 h21=>
 ext 0 v20 fun v22=>
 asB v22 fun b23=>
 cnd b23
 (ext 2 v20 fun v24=>
 asI .i32 v24 fun n25=>
 fI (wrap .i64 (n_8*n_6)) fun n26=>
 c (.func 162) [(.str 22 26291342665239622251265189840170011249128153612955952),(.int .i32 n25)] h21 fun v27 h28=>
 asI .i64 v27 fun n29=>
 fI (wrap .i64 (Cd n26 n29)) fun n30=>
 Abw Nat.land .i64 n30 (Int.ofNat 4095) fun n31=>
 J.a1 n_5 n_6 n31 v_38 h28)
 (fI (wrap .u8 n_8) fun n32=>
 k (.tuple [(.int .u8 n32),(.int .i64 n_5)]) h21)
def Ae4(c:CF)(k:KV)(J:Agm)(l_0 c_0:Nat)(n_5 n_6 n_7:Int)(h:H):Prop:=
 cnd (Fw n_5 n_7)
 (k (.tuple [(.int .u8 (Int.ofNat 0)),(.int .i64 (Int.ofNat 0))]) h)
 (Bz n_5 fun m33=>
 Bz n_7 fun m34=>
 Fm l_0 c_0 m34 m33 fun l35 c36=>
 c (.func 161) [(.str l35 c36)] h fun v37 h38=>
 asS v37 fun l39 c40=>
 oK (Ot env 9 (.str l39 c40) h38) fun v41 h42=>
 J.a1 n_5 n_6 (Int.ofNat 0) v41 h42)
def Bhp:Agm:=⟨fun _ _ _=>False,fun _ _ _ _ _=>False,fun _ _ _ _ _ _=>False⟩
def Zo(c:CF)(k:KV)(m:Nat):Agm:=Nat.rec Bhp (fun _ J=>⟨Ae6 c k J,Ae5 c k J,Ae4 c k J⟩) m
def f108(J:Agm):Jump:=fun L f h=>match L with
 |0=>asS (f 0) fun l_0 c_0=>J.a0 l_0 c_0 h
 |1=>asI .i64 (f 5) fun n_5=>asI .i64 (f 6) fun n_6=>asI .i64 (f 8) fun n_8=>J.a1 n_5 n_6 n_8 (f 38) h
 |2=>asS (f 0) fun l_0 c_0=>asI .i64 (f 5) fun n_5=>asI .i64 (f 6) fun n_6=>asI .i64 (f 7) fun n_7=>J.a2 l_0 c_0 n_5 n_6 n_7 h
 |_=>False
def Ax0:Bm:=[(.root,0),((.l (.r (.l (.r (.r (.r (.r (.r (.r (.r .root)))))))))),1),((.r (.r (.r (.r (.r .root))))),2)]
def d109:Code:=Option.rec .skip (fun c=>c) Tryz.f109.body
def Ba9:Aw:=[]
structure Axr where
 a0:Nat→Nat→Nat→Nat→H→Prop
def Ae3(c:CF)(k:KV)(_J:Axr)(l_0 c_0:Nat)(l_1 c_1:Nat)(h:H):Prop:=
 c (.func 163) [(.str l_0 c_0),(.str l_1 c_1)] h fun v1 h2=>
 ext 0 v1 fun v3=>
 asS v3 fun l4 c5=>
 ext 1 v1 fun v6=>
 asB v6 fun b7=>
 k (.tuple [(.str l4 c5),(.bool b7)]) h2
def z109:Axr:=⟨fun _ _ _ _ _=>False⟩
def As6(c:CF)(k:KV)(m:Nat):Axr:=Nat.rec z109 (fun _ J=>⟨Ae3 c k J⟩) m
def f109(J:Axr):Jump:=fun L f h=>match L with
 |0=>asS (f 0) fun l_0 c_0=>asS (f 1) fun l_1 c_1=>J.a0 l_0 c_0 l_1 c_1 h
 |_=>False
def A93:Bm:=[(.root,0)]
def d110:Code:=Option.rec .skip (fun c=>c) Tryz.f110.body
def Ba8:Aw:=[]
structure Axq where
 a0:AV→H→Prop
def Ae2(c:CF)(k:KV)(_J:Axq)(v_0:AV)(h:H):Prop:=
 oK (Cp v_0 h) fun v1 h2=>
 As 0 v1 fun v3=>
 ld1 v3 h2 fun v4=>
 oV (Jk env .eql 147 v4 .Gj) fun v5=>
 asB v5 fun b6=>
 cnd b6
 (oK (Fz env h2 147 258 v_0) fun v7 h8=>
 c (.func 164) [v7] h8 fun v9 h10=>
 oK (Fz env h10 258 147 v9) fun v11 h12=>
 oK (Cp v_0 h12) fun v13 h14=>
 As 0 v13 fun v15=>
 st1 v15 v11 h14 fun h16=>
 k (.tuple []) h16)
 (oK (Cp v_0 h2) fun v17 h18=>
 As 0 v17 fun v19=>
 ld1 v19 h18 fun v20=>
 oV (Jk env .neq 147 v20 v_0) fun v21=>
 asB v21 fun b22=>
 cnd b22
 (False)
 (k (.tuple []) h18))
def Bho:Axq:=⟨fun _ _=>False⟩
def As5(c:CF)(k:KV)(m:Nat):Axq:=Nat.rec Bho (fun _ J=>⟨Ae2 c k J⟩) m
def f110(J:Axq):Jump:=fun L f h=>match L with
 |0=>J.a0 (f 0) h
 |_=>False
def A92:Bm:=[(.root,0)]
def d111:Code:=Option.rec .skip (fun c=>c) Tryz.f111.body
def Ba7:Aw:=[]
structure Axp where
 a0:Nat→Nat→H→Prop
def Ae1(c:CF)(k:KV)(_J:Axp)(l_0 c_0:Nat)(h:H):Prop:=
 oK (Au env 44 (fun e ei=>Ak 4 [(0,(.str 1 34)),(1,(.str 2 8796)),(2,(.str 1 92)),(3,(.str 2 23644))] h e ei)) fun v1 h2=>
 c (.func 165) [v1] h2 fun v3 h4=>
 c (.func 166) [v3,(.str l_0 c_0)] h4 fun v5 h6=>
 asS v5 fun l7 c8=>
 k (.str l7 c8) h6
def Bhn:Axp:=⟨fun _ _ _=>False⟩
def As4(c:CF)(k:KV)(m:Nat):Axp:=Nat.rec Bhn (fun _ J=>⟨Ae1 c k J⟩) m
def f111(J:Axp):Jump:=fun L f h=>match L with
 |0=>asS (f 0) fun l_0 c_0=>J.a0 l_0 c_0 h
 |_=>False
def A91:Bm:=[(.root,0)]
def d112:Code:=Option.rec .skip (fun c=>c) Tryz.f112.body
def Ba6:Aw:=[]
structure Axo where
 a0:Nat→Nat→Nat→Nat→H→Prop
def Ae0(c:CF)(k:KV)(_J:Axo)(l_0 c_0:Nat)(l_1 c_1:Nat)(h:H):Prop:=
 Ao (fun k1=>gate false (Bg l_0 c_0 0 0)
 (k1 (Bg l_1 c_1 0 0) h)
 (k1 true h)) fun b3 h2=>
 cnd b3
 (k (.str l_0 c_0) h2)
 (Ao (fun k4=>gate true (Ba (Int.ofNat l_1) (Int.ofNat 1))
 (Ci l_1 c_1 0 fun m7=>
 k4 (Cl (Int.ofNat m7) (Int.ofNat 128)) h2)
 (k4 false h2)) fun b6 h5=>
 cnd b6
 (Ci l_1 c_1 0 fun m8=>
 c (.func 167) [(.str l_0 c_0),(.int .u8 (Int.ofNat m8))] h5 fun v9 h10=>
 asS v9 fun l11 c12=>
 k (.str l11 c12) h10)
 (c (.func 168) [(.str l_1 c_1)] h5 fun v13 h14=>
 ext 0 v13 fun v15=>
 ext 1 v13 fun v16=>
 asB v16 fun b17=>
 Hp.Fi h14 A0e fun p18 h19=>
 stn 256 (.ptr p18 0) v15 h19 fun h20=>
 cnd b17
 (c (.func 169) [(.str l_0 c_0),(.ptr p18 0)] h20 fun v21 h22=>
 asS v21 fun l23 c24=>
 k (.str l23 c24) h22)
 (c (.func 170) [(.str l_0 c_0),(.str l_1 c_1)] h20 fun v25 h26=>
 asS v25 fun l27 c28=>
 k (.str l27 c28) h26)))
def Bhm:Axo:=⟨fun _ _ _ _ _=>False⟩
def As3(c:CF)(k:KV)(m:Nat):Axo:=Nat.rec Bhm (fun _ J=>⟨Ae0 c k J⟩) m
def f112(J:Axo):Jump:=fun L f h=>match L with
 |0=>asS (f 0) fun l_0 c_0=>asS (f 1) fun l_1 c_1=>J.a0 l_0 c_0 l_1 c_1 h
 |_=>False
def A90:Bm:=[(.root,0)]
def d113:Code:=Option.rec .skip (fun c=>c) Tryz.f113.body
def A3y:Aw:=[(3,[0,1,2,3]),(5,[0,1,2,3,4,5,6])]
structure Al0 where
 a0:Nat→Nat→H→Prop
 a1:Nat→Nat→Bool→H→Prop
def Aez(_c:CF)(_k:KV)(J:Al0)(l_0 c_0:Nat)(h:H):Prop:=
 cnd (Bg l_0 c_0 0 0)
 (J.a1 l_0 c_0 false h)
 (Ci l_0 c_0 0 fun m1=>
 Ao (fun k2=>gate false (Ba (Int.ofNat m1) (Int.ofNat 117))
 (Ci l_0 c_0 0 fun m5=>
 k2 (Ba (Int.ofNat m5) (Int.ofNat 85)) h)
 (k2 true h)) fun b4 h3=>
 cnd b4
 (Fm l_0 c_0 1 l_0 fun l6 c7=>
 J.a1 l6 c7 true h3)
 (fI (wrap .i64 (Hw (Int.ofNat l_0) (Int.ofNat 1))) fun n8=>
 Bz n8 fun m9=>
 Ci l_0 c_0 m9 fun m10=>
 Ao (fun k11=>gate false (Ba (Int.ofNat m10) (Int.ofNat 117))
 (fI (wrap .i64 (Hw (Int.ofNat l_0) (Int.ofNat 1))) fun n14=>
 Bz n14 fun m15=>
 Ci l_0 c_0 m15 fun m16=>
 k11 (Ba (Int.ofNat m16) (Int.ofNat 85)) h3)
 (k11 true h3)) fun b13 h12=>
 cnd b13
 (fI (wrap .i64 (Hw (Int.ofNat l_0) (Int.ofNat 1))) fun n17=>
 Bz n17 fun m18=>
 Fm l_0 c_0 0 m18 fun l19 c20=>
 J.a1 l19 c20 true h12)
 (J.a1 l_0 c_0 false h12)))
def Aey(_c:CF)(k:KV)(_J:Al0)(l_0 c_0:Nat)(b_2:Bool)(h:H):Prop:=
 Ao (fun k21=>gate false (Bg l_0 c_0 0 0)
 (k21 (Bg l_0 c_0 1 108) h)
 (k21 true h)) fun b23 h22=>
 Ao (fun k24=>gate false b23
 (k24 (Bg l_0 c_0 1 76) h22)
 (k24 true h22)) fun b26 h25=>
 Ao (fun k27=>gate false b26
 (k27 (Bg l_0 c_0 2 27756) h25)
 (k27 true h25)) fun b29 h28=>
 Ao (fun k30=>gate false b29
 (k30 (Bg l_0 c_0 2 19532) h28)
 (k30 true h28)) fun b32 h31=>
 k (.tuple [(.bool b_2),(.bool b32)]) h31
def Bhl:Al0:=⟨fun _ _ _=>False,fun _ _ _ _=>False⟩
def Ahi(c:CF)(k:KV)(m:Nat):Al0:=Nat.rec Bhl (fun _ J=>⟨Aez c k J,Aey c k J⟩) m
def f113(J:Al0):Jump:=fun L f h=>match L with
 |0=>asS (f 0) fun l_0 c_0=>J.a0 l_0 c_0 h
 |1=>asS (f 0) fun l_0 c_0=>asB (f 2) fun b_2=>J.a1 l_0 c_0 b_2 h
 |_=>False
def A2y:Bm:=[(.root,0),((.r (.r .root)),1)]
def d114:Code:=Option.rec .skip (fun c=>c) Tryz.f114.body
def Ba5:Aw:=[]
structure Axn where
 a0:Nat→Nat→H→Prop
def Aex(c:CF)(k:KV)(_J:Axn)(l_0 c_0:Nat)(h:H):Prop:=
 c (.func 115) [(.str l_0 c_0),(.str 2 30768)] h fun v1 h2=>
 asB v1 fun b3=>
 Ao (fun k4=>gate false b3
 (c (.func 115) [(.str l_0 c_0),(.str 2 22576)] h2 fun v7 h8=>
 asB v7 fun b9=>
 k4 b9 h8)
 (k4 true h2)) fun b6 h5=>
 k (.bool b6) h5
def Bhk:Axn:=⟨fun _ _ _=>False⟩
def As2(c:CF)(k:KV)(m:Nat):Axn:=Nat.rec Bhk (fun _ J=>⟨Aex c k J⟩) m
def f114(J:Axn):Jump:=fun L f h=>match L with
 |0=>asS (f 0) fun l_0 c_0=>J.a0 l_0 c_0 h
 |_=>False
def A9z:Bm:=[(.root,0)]
def d115:Code:=Option.rec .skip (fun c=>c) Tryz.f115.body
def Ba4:Aw:=[]
structure Axm where
 a0:Nat→Nat→Nat→Nat→H→Prop
def Aj5(c:CF)(k:KV)(_J:Axm)(l_0 c_0:Nat)(l_1 c_1:Nat)(h:H):Prop:=
 c (.func 171) [(.str l_0 c_0),(.str l_1 c_1)] h fun v1 h2=>
 asB v1 fun b3=>
 k (.bool b3) h2
def Bhj:Axm:=⟨fun _ _ _ _ _=>False⟩
def As1(c:CF)(k:KV)(m:Nat):Axm:=Nat.rec Bhj (fun _ J=>⟨Aj5 c k J⟩) m
def f115(J:Axm):Jump:=fun L f h=>match L with
 |0=>asS (f 0) fun l_0 c_0=>asS (f 1) fun l_1 c_1=>J.a0 l_0 c_0 l_1 c_1 h
 |_=>False
def A9y:Bm:=[(.root,0)]
def d116:Code:=Option.rec .skip (fun c=>c) Tryz.f116.body
def Ba3:Aw:=[]
structure Axl where
 a0:Nat→Nat→Nat→Nat→H→Prop
def Aew(c:CF)(k:KV)(_J:Axl)(l_0 c_0:Nat)(l_1 c_1:Nat)(h:H):Prop:=
 c (.func 172) [(.str l_0 c_0),(.str l_1 c_1)] h fun v1 h2=>
 asS v1 fun l3 _=>
 fI (wrap .i64 (Hw (Int.ofNat l_0) (Int.ofNat l3))) fun n5=>
 k (.int .i64 n5) h2
def z116:Axl:=⟨fun _ _ _ _ _=>False⟩
def As0(c:CF)(k:KV)(m:Nat):Axl:=Nat.rec z116 (fun _ J=>⟨Aew c k J⟩) m
def f116(J:Axl):Jump:=fun L f h=>match L with
 |0=>asS (f 0) fun l_0 c_0=>asS (f 1) fun l_1 c_1=>J.a0 l_0 c_0 l_1 c_1 h
 |_=>False
def A9x:Bm:=[(.root,0)]
def d117:Code:=Option.rec .skip (fun c=>c) Tryz.f117.body
def Ba2:Aw:=[]
structure Axk where
 a0:Nat→Nat→Int→Int→H→Prop
def Aev(c:CF)(k:KV)(_J:Axk)(l_0 c_0:Nat)(n_1 n_2:Int)(h:H):Prop:=
 c (.func 173) [(.str l_0 c_0),(.int .i64 n_1),(.int .i64 n_2)] h fun v1 h2=>
 ext 0 v1 fun v3=>
 asI .u64 v3 fun n4=>
 ext 1 v1 fun v5=>
 oV (Jk env .neq 151 v5 .Ia) fun v6=>
 asB v6 fun b7=>
 cnd b7
 (c (.func 174) [(.str 9 2147778296661251613008),(.str l_0 c_0),(.int .i64 n_1),(.int .i64 n_2),v5] h2 fun v8 h9=>
 k (.tuple [(.int .u64 n4),v8]) h9)
 (k (.tuple [(.int .u64 n4),.Ia]) h2)
def z117:Axk:=⟨fun _ _ _ _ _=>False⟩
def Asz(c:CF)(k:KV)(m:Nat):Axk:=Nat.rec z117 (fun _ J=>⟨Aev c k J⟩) m
def f117(J:Axk):Jump:=fun L f h=>match L with
 |0=>asS (f 0) fun l_0 c_0=>asI .i64 (f 1) fun n_1=>asI .i64 (f 2) fun n_2=>J.a0 l_0 c_0 n_1 n_2 h
 |_=>False
def A9w:Bm:=[(.root,0)]
def d118:Code:=Option.rec .skip (fun c=>c) Tryz.f118.body
def A3x:Aw:=[]
structure Alz where
 a0:Nat→Nat→Nat→Nat→H→Prop
 a1:Nat→Nat→Nat→Nat→H→Prop
def Aeu(c:CF)(k:KV)(J:Alz)(l_0 c_0:Nat)(l_1 c_1:Nat)(h:H):Prop:=
 Ao (fun k1=>gate false (Bg l_0 c_0 0 0)
 (Ci l_0 c_0 0 fun m4=>
 c (.func 160) [(.str l_1 c_1),(.int .u8 (Int.ofNat m4))] h fun v5 h6=>
 asI .i64 v5 fun n7=>
 k1 (Cl n7 (Int.ofNat 0)) h6)
 (k1 true h)) fun b3 h2=>
 cnd b3
 (k (.tuple [(.str l_0 c_0),(.bool false)]) h2)
 (Fm l_0 c_0 1 l_0 fun l8 c9=>
 Ao (fun k10=>gate true (Cn (Bg l8 c9 0 0))
 (Ci l8 c9 0 fun m13=>
 Ao (fun k14=>gate false (Ba (Int.ofNat m13) (Int.ofNat 43))
 (Ci l8 c9 0 fun m17=>
 k14 (Ba (Int.ofNat m17) (Int.ofNat 45)) h2)
 (k14 true h2)) fun b16 h15=>
 k10 b16 h15)
 (k10 false h2)) fun b12 h11=>
 cnd b12
 (Fm l8 c9 1 l8 fun l18 c19=>
 J.a1 l_0 c_0 l18 c19 h11)
 (J.a1 l_0 c_0 l8 c9 h11))
def Aet(c:CF)(k:KV)(_J:Alz)(l_0 c_0:Nat)(l_6 c_6:Nat)(h:H):Prop:=
 c (.func 116) [(.str l_6 c_6),(.str 10 270211885617516653982000)] h fun v20 h21=>
 asI .i64 v20 fun n22=>
 cnd (Ba n22 (Int.ofNat 0))
 (k (.tuple [(.str l_0 c_0),(.bool false)]) h21)
 (Bz n22 fun m23=>
 Fm l_6 c_6 m23 l_6 fun l24 c25=>
 k (.tuple [(.str l24 c25),(.bool true)]) h21)
def Bhi:Alz:=⟨fun _ _ _ _ _=>False,fun _ _ _ _ _=>False⟩
def Abf(c:CF)(k:KV)(m:Nat):Alz:=Nat.rec Bhi (fun _ J=>⟨Aeu c k J,Aet c k J⟩) m
def f118(J:Alz):Jump:=fun L f h=>match L with
 |0=>asS (f 0) fun l_0 c_0=>asS (f 1) fun l_1 c_1=>J.a0 l_0 c_0 l_1 c_1 h
 |1=>asS (f 0) fun l_0 c_0=>asS (f 6) fun l_6 c_6=>J.a1 l_0 c_0 l_6 c_6 h
 |_=>False
def A2x:Bm:=[(.root,0),((.r (.r (.r (.r .root)))),1)]
def d119:Code:=Option.rec .skip (fun c=>c) Tryz.f119.body
def Ba1:Aw:=[]
structure Axj where
 a0:AV→H→Prop
def Aes(_c:CF)(k:KV)(_J:Axj)(v_0:AV)(h:H):Prop:=
 asG v_0 fun g1=>
 chk (Nat.ble 1 (len g1))<|
 Hp.Fi h (rowOf 43 g1) fun p2 h3=>
 As 0 (.ptr p2 0) fun v4=>
 ld1 v4 h3 fun v5=>
 asI .i64 v5 fun n6=>
 Ao (fun k7=>gate true (Ba n6 (Int.ofNat 5))
 (As 1 (.ptr p2 0) fun v10=>
 ld1 v10 h3 fun v11=>
 asS v11 fun l12 c13=>
 Ao (fun k14=>gate false (Bg l12 c13 1 35)
 (As 1 (.ptr p2 0) fun v17=>
 ld1 v17 h3 fun v18=>
 asS v18 fun l19 c20=>
 k14 (Bg l19 c20 2 14885) h3)
 (k14 true h3)) fun b16 h15=>
 k7 b16 h15)
 (k7 false h3)) fun b9 h8=>
 k (.bool b9) h8
def z119:Axj:=⟨fun _ _=>False⟩
def Asy(c:CF)(k:KV)(m:Nat):Axj:=Nat.rec z119 (fun _ J=>⟨Aes c k J⟩) m
def f119(J:Axj):Jump:=fun L f h=>match L with
 |0=>J.a0 (f 0) h
 |_=>False
def A9v:Bm:=[(.root,0)]
def d120:Code:=Option.rec .skip (fun c=>c) Tryz.f120.body
def Ba0:Aw:=[]
structure Axi where
 a0:AV→H→Prop
def Aer(c:CF)(k:KV)(_J:Axi)(v_0:AV)(h:H):Prop:=
 asG v_0 fun g1=>
 chk (Nat.ble 1 (len g1))<|
 Hp.Fi h (rowOf 43 g1) fun p2 h3=>
 ldn 8 (.ptr p2 0) h3 fun v4=>
 c (.func 136) [v4,(.str 2 8995)] h3 fun v5 h6=>
 asB v5 fun b7=>
 Ao (fun k8=>gate false b7
 (ldn 8 (.ptr p2 0) h6 fun v11=>
 c (.func 136) [v11,(.str 4 975518245)] h6 fun v12 h13=>
 asB v12 fun b14=>
 k8 b14 h13)
 (k8 true h6)) fun b10 h9=>
 k (.bool b10) h9
def Bhh:Axi:=⟨fun _ _=>False⟩
def Asx(c:CF)(k:KV)(m:Nat):Axi:=Nat.rec Bhh (fun _ J=>⟨Aer c k J⟩) m
def f120(J:Axi):Jump:=fun L f h=>match L with
 |0=>J.a0 (f 0) h
 |_=>False
def A9u:Bm:=[(.root,0)]
def d122:Code:=Option.rec .skip (fun c=>c) Tryz.f122.body
def Baz:Aw:=[]
structure Axh where
 a0:AV→H→Prop
def Aeo(c:CF)(k:KV)(_J:Axh)(v_0:AV)(h:H):Prop:=
 oK (Cp v_0 h) fun v1 h2=>
 As 0 v1 fun v3=>
 c (.func 175) [v3] h2 fun v4 h5=>
 asI .u32 v4 fun n6=>
 k (.bool (Cn (Ba n6 (Int.ofNat 0)))) h5
def Bhf:Axh:=⟨fun _ _=>False⟩
def Asw(c:CF)(k:KV)(m:Nat):Axh:=Nat.rec Bhf (fun _ J=>⟨Aeo c k J⟩) m
def f122(J:Axh):Jump:=fun L f h=>match L with
 |0=>J.a0 (f 0) h
 |_=>False
def A9t:Bm:=[(.root,0)]
def d123:Code:=Option.rec .skip (fun c=>c) Tryz.f123.body
def Blu:Aw:=[]
def Blt:Bm:=[(.root,0)]
def d124:Code:=Option.rec .skip (fun c=>c) Tryz.f124.body
def A3v:Aw:=[]
def A2v:Bm:=[(.root,0),((.l (.r (.l (.r .root)))),1),((.r (.r (.r (.r (.r (.l (.r (.l (.l (.r (.l (.r .root)))))))))))),2),((.r (.r (.r (.r (.l (.r (.l (.l (.r (.l (.r .root))))))))))),3)]
def d127:Code:=Option.rec .skip (fun c=>c) Tryz.f127.body
def A3u:Aw:=[]
def A2u:Bm:=[(.root,0),((.l (.r (.l (.r (.r .root))))),1),((.r (.r (.l (.l (.r (.l (.r (.r .root)))))))),2)]
def d128:Code:=Option.rec .skip (fun c=>c) Tryz.f128.body
def A3t:Aw:=[]
def A2t:Bm:=[(.root,0),((.l (.r (.l (.r (.r .root))))),1),((.r (.l (.r (.l (.l (.r (.l (.r (.r .root))))))))),2)]
def d129:Code:=Option.rec .skip (fun c=>c) Tryz.f129.body
def A3s:Aw:=[]
def A2s:Bm:=[(.root,0)]
def d130:Code:=Option.rec .skip (fun c=>c) Tryz.f130.body
def A3r:Aw:=[]
def A2r:Bm:=[(.root,0)]
def d131:Code:=Option.rec .skip (fun c=>c) Tryz.f131.body
def A3q:Aw:=[]
def A2q:Bm:=[(.root,0),((.l (.r (.l (.r (.r .root))))),1),((.r (.r (.l (.l (.r (.l (.r (.r .root)))))))),2)]
def d132:Code:=Option.rec .skip (fun c=>c) Tryz.f132.body
def A3p:Aw:=[]
def A2p:Bm:=[(.root,0)]
def d133:Code:=Option.rec .skip (fun c=>c) Tryz.f133.body
def A3o:Aw:=[]
def A2o:Bm:=[(.root,0)]
def d134:Code:=Option.rec .skip (fun c=>c) Tryz.f134.body
def A3n:Aw:=[]
def A2n:Bm:=[(.root,0),((.l (.r (.r (.r .root)))),1)]
def d135:Code:=Option.rec .skip (fun c=>c) Tryz.f135.body
def A3m:Aw:=[(6,[0,1,2,3,4,5,6,7,8,9,10,11,13,14,15,16,17,18,12,19,20])]
def A2m:Bm:=[(.root,0),((.l (.r (.l (.r (.r .root))))),1),((.l (.l (.r (.l (.l (.r (.l (.l (.r (.l (.r (.r .root)))))))))))),2)]
def d136:Code:=Option.rec .skip (fun c=>c) Tryz.f136.body
def Bay:Aw:=[]
structure Axg where
 a0:AV→Nat→Nat→H→Prop
def Aen(_c:CF)(k:KV)(_J:Axg)(v_0:AV)(l_1 c_1:Nat)(h:H):Prop:=
 asG v_0 fun g1=>
 chk (Nat.ble 1 (len g1))<|
 Hp.Fi h (rowOf 43 g1) fun p2 h3=>
 As 0 (.ptr p2 0) fun v4=>
 ld1 v4 h3 fun v5=>
 asI .i64 v5 fun n6=>
 Ao (fun k7=>gate true (Ba n6 (Int.ofNat 5))
 (As 1 (.ptr p2 0) fun v10=>
 ld1 v10 h3 fun v11=>
 asS v11 fun l12 c13=>
 k7 (Bg l12 c13 l_1 c_1) h3)
 (k7 false h3)) fun b9 h8=>
 k (.bool b9) h8
def Bhe:Axg:=⟨fun _ _ _ _=>False⟩
def Asv(c:CF)(k:KV)(m:Nat):Axg:=Nat.rec Bhe (fun _ J=>⟨Aen c k J⟩) m
def f136(J:Axg):Jump:=fun L f h=>match L with
 |0=>asS (f 1) fun l_1 c_1=>J.a0 (f 0) l_1 c_1 h
 |_=>False
def A9s:Bm:=[(.root,0)]
def d160:Code:=Option.rec .skip (fun c=>c) Tryz.f160.body
def Bax:Aw:=[]
structure Axf where
 a0:Nat→Nat→Int→H→Prop
def Aem(c:CF)(k:KV)(_J:Axf)(l_0 c_0:Nat)(n_1:Int)(h:H):Prop:=
 c (.func 207) [(.str l_0 c_0),(.int .u8 n_1)] h fun v1 h2=>
 asI .i64 v1 fun n3=>
 k (.int .i64 n3) h2
def z160:Axf:=⟨fun _ _ _ _=>False⟩
def Asu(c:CF)(k:KV)(m:Nat):Axf:=Nat.rec z160 (fun _ J=>⟨Aem c k J⟩) m
def f160(J:Axf):Jump:=fun L f h=>match L with
 |0=>asS (f 0) fun l_0 c_0=>asI .u8 (f 1) fun n_1=>J.a0 l_0 c_0 n_1 h
 |_=>False
def A9r:Bm:=[(.root,0)]
def d161:Code:=Option.rec .skip (fun c=>c) Tryz.f161.body
def Akf:Aw:=[]
structure To where
 a0:Nat→Nat→H→Prop
 a1:Nat→Nat→Bool→Bool→Int→H→Prop
 a2:Nat→Nat→AV→Int→Int→H→Prop
 a3:Nat→Nat→AV→Int→Int→H→Prop
 a4:Nat→Nat→AV→Int→Int→H→Prop
 a5:Nat→Nat→Bool→Bool→H→Prop
def Ael(_c:CF)(_k:KV)(J:To)(l_0 c_0:Nat)(h:H):Prop:=
 J.a1 l_0 c_0 true false (Int.ofNat 0) h
def Aek(_c:CF)(_k:KV)(J:To)(l_0 c_0:Nat)(b_3 b_4:Bool)(n_5:Int)(h:H):Prop:=
 cnd (Cl n_5 (Int.ofNat l_0))
 (Bz n_5 fun m1=>
 Ci l_0 c_0 m1 fun m2=>
 cnd (Fw (Int.ofNat 128) (Int.ofNat m2))
 (J.a5 l_0 c_0 false b_4 h)
 (Ao (fun k3=>gate false b_4
 (Ao (fun k6=>gate true (Fw (Int.ofNat 65) (Int.ofNat m2))
 (k6 (Fw (Int.ofNat m2) (Int.ofNat 90)) h)
 (k6 false h)) fun b8 h7=>
 k3 b8 h7)
 (k3 true h)) fun b5 h4=>
 fI (wrap .i64 (Cd n_5 (Int.ofNat 1))) fun n9=>
 J.a1 l_0 c_0 b_3 b5 n9 h4))
 (J.a5 l_0 c_0 b_3 b_4 h)
def Aej(c:CF)(k:KV)(J:To)(l_0 c_0:Nat)(v_7:AV)(n_8 n_9:Int)(h:H):Prop:=
 cnd (Cl n_9 (Int.ofNat l_0))
 (Bz n_9 fun m10=>
 Ci l_0 c_0 m10 fun m11=>
 Ao (fun k12=>gate true (Fw (Int.ofNat 65) (Int.ofNat m11))
 (k12 (Fw (Int.ofNat m11) (Int.ofNat 90)) h)
 (k12 false h)) fun b14 h13=>
 cnd b14
 (fI (wrap .u8 (Cd (Int.ofNat m11) (Int.ofNat 32))) fun n15=>
 cnd (Cl n_8 n_9)
 (Bz n_9 fun m16=>
 Bz n_8 fun m17=>
 Fm l_0 c_0 m17 m16 fun l18 c19=>
 c (.func 61) [v_7,(.str l18 c19)] h13 fun _ h21=>
 J.a3 l_0 c_0 v_7 n_9 n15 h21)
 (J.a3 l_0 c_0 v_7 n_9 n15 h13))
 (J.a4 l_0 c_0 v_7 n_8 n_9 h13))
 (cnd (Cl n_8 (Int.ofNat l_0))
 (Bz n_8 fun m22=>
 Fm l_0 c_0 m22 l_0 fun l23 c24=>
 c (.func 61) [v_7,(.str l23 c24)] h fun _ h26=>
 c (.func 63) [v_7] h26 fun v27 h28=>
 asS v27 fun l29 c30=>
 k (.str l29 c30) h28)
 (c (.func 63) [v_7] h fun v31 h32=>
 asS v31 fun l33 c34=>
 k (.str l33 c34) h32))
def Aei(c:CF)(_k:KV)(J:To)(l_0 c_0:Nat)(v_7:AV)(n_9 n_10:Int)(h:H):Prop:=
 c (.func 107) [v_7,(.int .u8 n_10)] h fun _ h36=>
 fI (wrap .i64 (Cd n_9 (Int.ofNat 1))) fun n37=>
 J.a4 l_0 c_0 v_7 n37 n_9 h36
def Zj(_c:CF)(_k:KV)(J:To)(l_0 c_0:Nat)(v_7:AV)(n_8 n_9:Int)(h:H):Prop:=
 fI (wrap .i64 (Cd n_9 (Int.ofNat 1))) fun n38=>
 J.a2 l_0 c_0 v_7 n_8 n38 h
def Aeh(c:CF)(k:KV)(J:To)(l_0 c_0:Nat)(b_3 b_4:Bool)(h:H):Prop:=
 cnd b_3
 (cnd (Cn b_4)
 (k (.str l_0 c_0) h)
 (Hp.Fi h Wx fun p39 h40=>
 c (.func 208) [(.ptr p39 0),(.int .i64 (Int.ofNat l_0))] h40 fun _ h42=>
 J.a2 l_0 c_0 (.ptr p39 0) (Int.ofNat 0) (Int.ofNat 0) h42))
 (c (.func 209) [(.func (.func 210) [] []),(.str l_0 c_0)] h fun v43 h44=>
 asS v43 fun l45 c46=>
 k (.str l45 c46) h44)
def Bhd:To:=⟨fun _ _ _=>False,fun _ _ _ _ _ _=>False,fun _ _ _ _ _ _=>False,fun _ _ _ _ _ _=>False,fun _ _ _ _ _ _=>False,fun _ _ _ _ _=>False⟩
def Nx(c:CF)(k:KV)(m:Nat):To:=Nat.rec Bhd (fun _ J=>⟨Ael c k J,Aek c k J,Aej c k J,Aei c k J,Zj c k J,Aeh c k J⟩) m
def f161(J:To):Jump:=fun L f h=>match L with
 |0=>asS (f 0) fun l_0 c_0=>J.a0 l_0 c_0 h
 |1=>asS (f 0) fun l_0 c_0=>asB (f 3) fun b_3=>asB (f 4) fun b_4=>asI .i64 (f 5) fun n_5=>J.a1 l_0 c_0 b_3 b_4 n_5 h
 |2=>asS (f 0) fun l_0 c_0=>asI .i64 (f 8) fun n_8=>asI .i64 (f 9) fun n_9=>J.a2 l_0 c_0 (f 7) n_8 n_9 h
 |3=>asS (f 0) fun l_0 c_0=>asI .i64 (f 9) fun n_9=>asI .u8 (f 10) fun n_10=>J.a3 l_0 c_0 (f 7) n_9 n_10 h
 |4=>asS (f 0) fun l_0 c_0=>asI .i64 (f 8) fun n_8=>asI .i64 (f 9) fun n_9=>J.a4 l_0 c_0 (f 7) n_8 n_9 h
 |5=>asS (f 0) fun l_0 c_0=>asB (f 3) fun b_3=>asB (f 4) fun b_4=>J.a5 l_0 c_0 b_3 b_4 h
 |_=>False
def Ajx:Bm:=[(.root,0),((.l (.r (.l (.r (.r .root))))),1),((.l (.r (.l (.r (.r (.r (.r (.l (.r (.l (.r (.r (.r .root))))))))))))),2),((.r (.r (.l (.r (.r (.l (.l (.r (.l (.l (.r (.l (.r (.r (.r (.r (.l (.r (.l (.r (.r (.r .root)))))))))))))))))))))),3),((.r (.r (.l (.l (.r (.l (.r (.r (.r (.r (.l (.r (.l (.r (.r (.r .root)))))))))))))))),4),((.r (.r (.r .root))),5)]
def d162:Code:=Option.rec .skip (fun c=>c) Tryz.f162.body
def Baw:Aw:=[(6,[0,1,2,3,4,5,6]),(7,[0,1,2,3,4,5,6,7,8]),(14,[0,1,2,3,4,5,6,7,8,9,10]),(31,[0,1,2,3,4,5,6,7,8,9,10])]
structure Axe where
 a0:Nat→Nat→Int→H→Prop
def Aeg(c:CF)(k:KV)(_J:Axe)(l_0 c_0:Nat)(n_1:Int)(h:H):Prop:=
 Ao (fun k1=>gate true (Fw (Int.ofNat 0) n_1)
 (k1 (Cl n_1 (Int.ofNat 128)) h)
 (k1 false h)) fun b3 h2=>
 cnd b3
 (fI (wrap .u8 n_1) fun n4=>
 c (.func 160) [(.str l_0 c_0),(.int .u8 n4)] h2 fun v5 h6=>
 asI .i64 v5 fun n7=>
 k (.int .i64 n7) h6)
 (cnd (Ba n_1 (Int.ofNat 65533))
 (oK (Ot env 9 (.str l_0 c_0) h2) fun _ _=>
 False)
 (c (.func 211) [(.int .i32 n_1)] h2 fun v10 h11=>
 asB v10 fun b12=>
 cnd (Cn b12)
 (k (.int .i64 (Int.negSucc 0)) h11)
 (oK (Fz env h11 21 9 (.int .i32 n_1)) fun v13 _=>
 asS v13 fun l15 _=>
 fI (wrap .i64 (Hw (Int.ofNat l15) (Int.ofNat 1))) fun _=>
 False)))
def z162:Axe:=⟨fun _ _ _ _=>False⟩
def Ass(c:CF)(k:KV)(m:Nat):Axe:=Nat.rec z162 (fun _ J=>⟨Aeg c k J⟩) m
def f162(J:Axe):Jump:=fun L f h=>match L with
 |0=>asS (f 0) fun l_0 c_0=>asI .i32 (f 1) fun n_1=>J.a0 l_0 c_0 n_1 h
 |_=>False
def A9q:Bm:=[(.root,0),((.l (.r (.l (.l (.r (.r (.r (.l (.r .root))))))))),1),((.l (.l (.r (.r (.r (.r (.l (.r (.r (.r (.r (.r (.r (.l (.r .root))))))))))))))),2),((.l (.r (.l (.r (.l (.l (.r (.l (.l (.l (.r (.r (.r (.r (.l (.r (.r (.r (.r (.r (.r (.l (.r .root))))))))))))))))))))))),3),((.r (.l (.l (.r (.l (.l (.l (.r (.r (.r (.r (.l (.r (.r (.r (.r (.r (.r (.l (.r .root)))))))))))))))))))),4),((.lab (.l (.r (.l (.l (.l (.r (.r (.r (.r (.l (.r (.r (.r (.r (.r (.r (.l (.r .root)))))))))))))))))) 0),5),((.l (.r (.r (.r (.l (.r (.l (.r (.r (.r (.r (.r (.r (.r (.l (.r (.r (.r (.r (.r (.r (.l (.r .root))))))))))))))))))))))),6),((.l (.r (.l (.l (.r (.l (.l (.r (.l (.l (.r (.r (.r (.l (.r (.l (.r (.r (.r (.r (.r (.r (.r (.l (.r (.r (.r (.r (.r (.r (.l (.r .root)))))))))))))))))))))))))))))))),7),((.r (.r (.l (.l (.r (.r (.r (.l (.r (.l (.r (.r (.r (.r (.r (.r (.r (.l (.r (.r (.r (.r (.r (.r (.l (.r .root)))))))))))))))))))))))))),8),((.lab (.r (.l (.r (.r (.r (.r (.r (.r (.r (.l (.r (.r (.r (.r (.r (.r (.l (.r .root)))))))))))))))))) 2),9),((.l (.r (.lab (.r (.l (.r (.r (.r (.r (.r (.r (.r (.l (.r (.r (.r (.r (.r (.r (.l (.r .root)))))))))))))))))) 2))),10),((.l (.r (.l (.l (.r (.l (.l (.r (.l (.l (.r (.lab (.r (.l (.r (.r (.r (.r (.r (.r (.r (.l (.r (.r (.r (.r (.r (.r (.l (.r .root)))))))))))))))))) 2)))))))))))),11),((.r (.r (.l (.l (.r (.lab (.r (.l (.r (.r (.r (.r (.r (.r (.r (.l (.r (.r (.r (.r (.r (.r (.l (.r .root)))))))))))))))))) 2)))))),12),((.lab (.r (.r (.r (.r (.r (.r (.l (.r .root)))))))) 1),13),((.l (.r (.r (.r (.l (.r (.l (.r (.lab (.r (.r (.r (.r (.r (.r (.l (.r .root)))))))) 1))))))))),14),((.l (.r (.l (.l (.r (.l (.l (.r (.l (.l (.r (.r (.r (.l (.r (.l (.r (.lab (.r (.r (.r (.r (.r (.r (.l (.r .root)))))))) 1)))))))))))))))))),15),((.r (.r (.l (.l (.r (.r (.r (.l (.r (.l (.r (.lab (.r (.r (.r (.r (.r (.r (.l (.r .root)))))))) 1)))))))))))),16),((.lab (.r (.l (.r (.lab (.r (.r (.r (.r (.r (.r (.l (.r .root)))))))) 1)))) 2),17),((.l (.r (.lab (.r (.l (.r (.lab (.r (.r (.r (.r (.r (.r (.l (.r .root)))))))) 1)))) 2))),18),((.l (.r (.l (.l (.r (.l (.l (.r (.l (.l (.r (.lab (.r (.l (.r (.lab (.r (.r (.r (.r (.r (.r (.l (.r .root)))))))) 1)))) 2)))))))))))),19),((.r (.r (.l (.l (.r (.lab (.r (.l (.r (.lab (.r (.r (.r (.r (.r (.r (.l (.r .root)))))))) 1)))) 2)))))),20),((.r (.l (.l (.r (.r (.r (.r (.r (.r (.r (.l (.r (.r (.r (.r (.r (.r (.l (.r .root))))))))))))))))))),21),((.r (.r (.l (.r (.l (.r (.r (.r (.r (.r (.r (.r (.l (.r (.r (.r (.r (.r (.r (.l (.r .root))))))))))))))))))))),22)]
def d163:Code:=Option.rec .skip (fun c=>c) Tryz.f163.body
def Bav:Aw:=[]
structure Axd where
 a0:Nat→Nat→Nat→Nat→H→Prop
def Aef(c:CF)(k:KV)(_J:Axd)(l_0 c_0:Nat)(l_1 c_1:Nat)(h:H):Prop:=
 c (.func 171) [(.str l_0 c_0),(.str l_1 c_1)] h fun v1 h2=>
 asB v1 fun b3=>
 cnd (Cn b3)
 (k (.tuple [(.str l_0 c_0),(.bool false)]) h2)
 (Fm l_0 c_0 l_1 l_0 fun l4 c5=>
 k (.tuple [(.str l4 c5),(.bool true)]) h2)
def Bhc:Axd:=⟨fun _ _ _ _ _=>False⟩
def Asr(c:CF)(k:KV)(m:Nat):Axd:=Nat.rec Bhc (fun _ J=>⟨Aef c k J⟩) m
def f163(J:Axd):Jump:=fun L f h=>match L with
 |0=>asS (f 0) fun l_0 c_0=>asS (f 1) fun l_1 c_1=>J.a0 l_0 c_0 l_1 c_1 h
 |_=>False
def A9p:Bm:=[(.root,0)]
def d165:Code:=Option.rec .skip (fun c=>c) Tryz.f165.body
def A3l:Aw:=[]
def A2l:Bm:=[(.root,0),((.r (.r .root)),1)]
def d166:Code:=Option.rec .skip (fun c=>c) Tryz.f166.body
def Bau:Aw:=[]
structure Axc where
 a0:AV→Nat→Nat→H→Prop
def Aee(c:CF)(k:KV)(_J:Axc)(v_0:AV)(l_1 c_1:Nat)(h:H):Prop:=
 oK (Cp v_0 h) fun v1 h2=>
 As 0 v1 fun v3=>
 c (.func 74) [v3,(.func (.func 214) [v_0] [])] h2 fun _ h5=>
 oK (Cp v_0 h5) fun v6 h7=>
 As 3 v6 fun v8=>
 ld1 v8 h7 fun v9=>
 inv2 env c v9 "Replace" [(.str l_1 c_1)] h7 fun v10 h11 =>
 asS v10 fun l12 c13=>
 k (.str l12 c13) h11
def Bhb:Axc:=⟨fun _ _ _ _=>False⟩
def Asq(c:CF)(k:KV)(m:Nat):Axc:=Nat.rec Bhb (fun _ J=>⟨Aee c k J⟩) m
def f166(J:Axc):Jump:=fun L f h=>match L with
 |0=>asS (f 1) fun l_1 c_1=>J.a0 (f 0) l_1 c_1 h
 |_=>False
def A9o:Bm:=[(.root,0)]
def d168:Code:=Option.rec .skip (fun c=>c) Tryz.f168.body
def A3k:Aw:=[]
def A2k:Bm:=[(.root,0),((.l (.r (.l (.r .root)))),1)]
def d169:Code:=Option.rec .skip (fun c=>c) Tryz.f169.body
def A3j:Aw:=[]
structure Alx where
 a0:Nat→Nat→AV→H→Prop
 a1:Nat→Nat→AV→H→Prop
def Aed(_c:CF)(_k:KV)(J:Alx)(l_0 c_0:Nat)(v_1:AV)(h:H):Prop:=
 J.a1 l_0 c_0 v_1 h
def Aec(c:CF)(k:KV)(J:Alx)(l_0 c_0:Nat)(v_1:AV)(h:H):Prop:=
 cnd (Cl (Int.ofNat 0) (Int.ofNat l_0))
 (fI (wrap .i64 (Hw (Int.ofNat l_0) (Int.ofNat 1))) fun n1=>
 Bz n1 fun m2=>
 Ci l_0 c_0 m2 fun m3=>
 c (.func 215) [v_1,(.int .u8 (Int.ofNat m3))] h fun v4 h5=>
 asB v4 fun b6=>
 cnd (Cn b6)
 (k (.str l_0 c_0) h5)
 (fI (wrap .i64 (Hw (Int.ofNat l_0) (Int.ofNat 1))) fun n7=>
 Bz n7 fun m8=>
 Fm l_0 c_0 0 m8 fun l9 c10=>
 J.a1 l9 c10 v_1 h5))
 (k (.str l_0 c_0) h)
def Bha:Alx:=⟨fun _ _ _ _=>False,fun _ _ _ _=>False⟩
def Ahg(c:CF)(k:KV)(m:Nat):Alx:=Nat.rec Bha (fun _ J=>⟨Aed c k J,Aec c k J⟩) m
def f169(J:Alx):Jump:=fun L f h=>match L with
 |0=>asS (f 0) fun l_0 c_0=>J.a0 l_0 c_0 (f 1) h
 |1=>asS (f 0) fun l_0 c_0=>J.a1 l_0 c_0 (f 1) h
 |_=>False
def A2j:Bm:=[(.root,0),((.l (.l (.r .root))),1)]
def d171:Code:=Option.rec .skip (fun c=>c) Tryz.f171.body
def Bat:Aw:=[]
structure Axb where
 a0:Nat→Nat→Nat→Nat→H→Prop
def Aeb(_c:CF)(k:KV)(_J:Axb)(l_0 c_0:Nat)(l_1 c_1:Nat)(h:H):Prop:=
 Ao (fun k1=>gate true (Fw (Int.ofNat l_1) (Int.ofNat l_0))
 (Fm l_0 c_0 0 l_1 fun l4 c5=>
 k1 (Bg l4 c5 l_1 c_1) h)
 (k1 false h)) fun b3 h2=>
 k (.bool b3) h2
def z171:Axb:=⟨fun _ _ _ _ _=>False⟩
def Asp(c:CF)(k:KV)(m:Nat):Axb:=Nat.rec z171 (fun _ J=>⟨Aeb c k J⟩) m
def f171(J:Axb):Jump:=fun L f h=>match L with
 |0=>asS (f 0) fun l_0 c_0=>asS (f 1) fun l_1 c_1=>J.a0 l_0 c_0 l_1 c_1 h
 |_=>False
def A9n:Bm:=[(.root,0)]
def d172:Code:=Option.rec .skip (fun c=>c) Tryz.f172.body
def Bas:Aw:=[]
structure Axa where
 a0:Nat→Nat→Nat→Nat→H→Prop
def Aea(c:CF)(k:KV)(_J:Axa)(l_0 c_0:Nat)(l_1 c_1:Nat)(h:H):Prop:=
 Ao (fun k1=>gate false (Bg l_0 c_0 0 0)
 (k1 (Bg l_1 c_1 0 0) h)
 (k1 true h)) fun b3 h2=>
 cnd b3
 (k (.str l_0 c_0) h2)
 (Ao (fun k4=>gate true (Ba (Int.ofNat l_1) (Int.ofNat 1))
 (Ci l_1 c_1 0 fun m7=>
 k4 (Cl (Int.ofNat m7) (Int.ofNat 128)) h2)
 (k4 false h2)) fun b6 h5=>
 cnd b6
 (Ci l_1 c_1 0 fun m8=>
 c (.func 218) [(.str l_0 c_0),(.int .u8 (Int.ofNat m8))] h5 fun v9 h10=>
 asS v9 fun l11 c12=>
 k (.str l11 c12) h10)
 (c (.func 168) [(.str l_1 c_1)] h5 fun v13 h14=>
 ext 0 v13 fun v15=>
 ext 1 v13 fun v16=>
 asB v16 fun b17=>
 Hp.Fi h14 A0e fun p18 h19=>
 stn 256 (.ptr p18 0) v15 h19 fun h20=>
 cnd b17
 (c (.func 219) [(.str l_0 c_0),(.ptr p18 0)] h20 fun v21 h22=>
 asS v21 fun l23 c24=>
 k (.str l23 c24) h22)
 (c (.func 220) [(.str l_0 c_0),(.str l_1 c_1)] h20 fun v25 h26=>
 asS v25 fun l27 c28=>
 k (.str l27 c28) h26)))
def Bg9:Axa:=⟨fun _ _ _ _ _=>False⟩
def Aso(c:CF)(k:KV)(m:Nat):Axa:=Nat.rec Bg9 (fun _ J=>⟨Aea c k J⟩) m
def f172(J:Axa):Jump:=fun L f h=>match L with
 |0=>asS (f 0) fun l_0 c_0=>asS (f 1) fun l_1 c_1=>J.a0 l_0 c_0 l_1 c_1 h
 |_=>False
def A9m:Bm:=[(.root,0)]
def d173:Code:=Option.rec .skip (fun c=>c) Tryz.f173.body
def Ake:Aw:=[]
structure Tn where
 a0:Nat→Nat→Int→Int→H→Prop
 a1:Int→Bool→Nat→Nat→Int→Int→Bool→Int→AV→Int→Int→H→Prop
 a2:Int→Bool→Nat→Nat→Int→Int→Bool→Int→Int→AV→Int→Int→H→Prop
 a3:Nat→Nat→Int→Int→Bool→Nat→Nat→Int→H→Prop
 a4:Nat→Nat→Int→Int→Bool→Nat→Nat→H→Prop
 a5:Nat→Nat→Int→Int→Bool→Nat→Nat→H→Prop
def Ad9(c:CF)(k:KV)(J:Tn)(l_0 c_0:Nat)(n_1 n_2:Int)(h:H):Prop:=
 cnd (Bg l_0 c_0 0 0)
 (k (.tuple [(.int .u64 (Int.ofNat 0)),(.iface 304 (.int .i64 (Int.ofNat 2)))]) h)
 (Ao (fun k1=>gate true (Fw (Int.ofNat 2) n_1)
 (k1 (Fw n_1 (Int.ofNat 36)) h)
 (k1 false h)) fun b3 h2=>
 cnd b3
 (J.a5 l_0 c_0 n_1 n_2 (Ba n_1 (Int.ofNat 0)) l_0 c_0 h2)
 (cnd (Ba n_1 (Int.ofNat 0))
 (Ci l_0 c_0 0 fun m4=>
 cnd (Ba (Int.ofNat m4) (Int.ofNat 48))
 (Ao (fun k5=>gate true (Fw (Int.ofNat 3) (Int.ofNat l_0))
 (Ci l_0 c_0 1 fun m8=>
 c (.func 221) [(.int .u8 (Int.ofNat m8))] h2 fun v9 h10=>
 asI .u8 v9 fun n11=>
 k5 (Ba n11 (Int.ofNat 98)) h10)
 (k5 false h2)) fun b7 h6=>
 cnd b7
 (Fm l_0 c_0 2 l_0 fun l12 c13=>
 J.a5 l12 c13 (Int.ofNat 2) n_2 (Ba n_1 (Int.ofNat 0)) l_0 c_0 h6)
 (Ao (fun k14=>gate true (Fw (Int.ofNat 3) (Int.ofNat l_0))
 (Ci l_0 c_0 1 fun m17=>
 c (.func 221) [(.int .u8 (Int.ofNat m17))] h6 fun v18 h19=>
 asI .u8 v18 fun n20=>
 k14 (Ba n20 (Int.ofNat 111)) h19)
 (k14 false h6)) fun b16 h15=>
 cnd b16
 (Fm l_0 c_0 2 l_0 fun l21 c22=>
 J.a5 l21 c22 (Int.ofNat 8) n_2 (Ba n_1 (Int.ofNat 0)) l_0 c_0 h15)
 (Ao (fun k23=>gate true (Fw (Int.ofNat 3) (Int.ofNat l_0))
 (Ci l_0 c_0 1 fun m26=>
 c (.func 221) [(.int .u8 (Int.ofNat m26))] h15 fun v27 h28=>
 asI .u8 v27 fun n29=>
 k23 (Ba n29 (Int.ofNat 120)) h28)
 (k23 false h15)) fun b25 h24=>
 cnd b25
 (Fm l_0 c_0 2 l_0 fun l30 c31=>
 J.a5 l30 c31 (Int.ofNat 16) n_2 (Ba n_1 (Int.ofNat 0)) l_0 c_0 h24)
 (Fm l_0 c_0 1 l_0 fun l32 c33=>
 J.a5 l32 c33 (Int.ofNat 8) n_2 (Ba n_1 (Int.ofNat 0)) l_0 c_0 h24))))
 (J.a5 l_0 c_0 (Int.ofNat 10) n_2 (Ba n_1 (Int.ofNat 0)) l_0 c_0 h2))
 (k (.tuple [(.int .u64 (Int.ofNat 0)),(.iface 304 (.int .i64 (Int.ofNat 3)))]) h2)))
def Ad8(c:CF)(k:KV)(J:Tn)(n_1:Int)(b_8:Bool)(l_9 c_9:Nat)(n_10 n_11:Int)(b_12:Bool)(n_13:Int)(v_99:AV)(n_100 n_101:Int)(h:H):Prop:=
 cnd (Cl n_101 n_100)
 (Bz n_101 fun m34=>
 Dd 1 m34 v_99 fun v35=>
 ld1 v35 h fun v36=>
 asI .u8 v36 fun n37=>
 Ao (fun k38=>gate true (Ba n37 (Int.ofNat 95))
 (k38 b_8 h)
 (k38 false h)) fun b40 h39=>
 cnd b40
 (fI (wrap .i64 (Cd n_101 (Int.ofNat 1))) fun n41=>
 J.a1 n_1 b_8 l_9 c_9 n_10 n_11 true n_13 v_99 n_100 n41 h39)
 (Ao (fun k42=>gate true (Fw (Int.ofNat 48) n37)
 (k42 (Fw n37 (Int.ofNat 57)) h39)
 (k42 false h39)) fun b44 h43=>
 cnd b44
 (fI (wrap .u8 (Hw n37 (Int.ofNat 48))) fun n45=>
 J.a2 n_1 b_8 l_9 c_9 n_10 n_11 b_12 n_13 n45 v_99 n_100 n_101 h43)
 (c (.func 221) [(.int .u8 n37)] h43 fun v46 h47=>
 asI .u8 v46 fun n48=>
 Ao (fun k49=>gate true (Fw (Int.ofNat 97) n48)
 (c (.func 221) [(.int .u8 n37)] h47 fun v52 h53=>
 asI .u8 v52 fun n54=>
 k49 (Fw n54 (Int.ofNat 122)) h53)
 (k49 false h47)) fun b51 h50=>
 cnd b51
 (c (.func 221) [(.int .u8 n37)] h50 fun v55 h56=>
 asI .u8 v55 fun n57=>
 fI (wrap .u8 (Hw n57 (Int.ofNat 97))) fun n58=>
 fI (wrap .u8 (Cd n58 (Int.ofNat 10))) fun n59=>
 J.a2 n_1 b_8 l_9 c_9 n_10 n_11 b_12 n_13 n59 v_99 n_100 n_101 h56)
 (k (.tuple [(.int .u64 (Int.ofNat 0)),(.iface 304 (.int .i64 (Int.ofNat 2)))]) h50))))
 (Ao (fun k60=>gate true b_12
 (c (.func 222) [(.str l_9 c_9)] h fun v63 h64=>
 asB v63 fun b65=>
 k60 (Cn b65) h64)
 (k60 false h)) fun b62 h61=>
 cnd b62
 (k (.tuple [(.int .u64 (Int.ofNat 0)),(.iface 304 (.int .i64 (Int.ofNat 2)))]) h61)
 (k (.tuple [(.int .u64 n_13),.Ia]) h61))
def Ad7(_c:CF)(k:KV)(J:Tn)(n_1:Int)(b_8:Bool)(l_9 c_9:Nat)(n_10 n_11:Int)(b_12:Bool)(n_13 n_16:Int)(v_99:AV)(n_100 n_101:Int)(h:H):Prop:=
 fI (wrap .u8 n_1) fun n66=>
 cnd (Fw n66 n_16)
 (k (.tuple [(.int .u64 (Int.ofNat 0)),(.iface 304 (.int .i64 (Int.ofNat 2)))]) h)
 (cnd (Fw n_10 n_13)
 (k (.tuple [(.int .u64 n_11),(.iface 304 (.int .i64 (Int.ofNat 1)))]) h)
 (fI (wrap .u64 n_1) fun n67=>
 fI (wrap .u64 (n_13*n67)) fun n68=>
 fI (wrap .u64 n_16) fun n69=>
 fI (wrap .u64 (Cd n68 n69)) fun n70=>
 Ao (fun k71=>gate false (Cl n70 n68)
 (k71 (Cl n_11 n70) h)
 (k71 true h)) fun b73 h72=>
 cnd b73
 (k (.tuple [(.int .u64 n_11),(.iface 304 (.int .i64 (Int.ofNat 1)))]) h72)
 (fI (wrap .i64 (Cd n_101 (Int.ofNat 1))) fun n74=>
 J.a1 n_1 b_8 l_9 c_9 n_10 n_11 b_12 n70 v_99 n_100 n74 h72)))
def Ad6(_c:CF)(_k:KV)(J:Tn)(l_0 c_0:Nat)(n_1 n_2:Int)(b_8:Bool)(l_9 c_9:Nat)(n_10:Int)(h:H):Prop:=
 fI (wrap .u64 n_2) fun n75=>
 Ap2 .u64 (Int.ofNat 1) n75 fun n76=>
 fI (wrap .u64 (Hw n76 (Int.ofNat 1))) fun n77=>
 oK (Fz env h 9 115 (.str l_0 c_0)) fun v78 h79=>
 Gn v78 fun m80=>
 J.a1 n_1 b_8 l_9 c_9 n_10 n77 false (Int.ofNat 0) v78 (Int.ofNat m80) (Int.ofNat 0) h79
def Ad5(_c:CF)(_k:KV)(J:Tn)(l_0 c_0:Nat)(n_1 n_2:Int)(b_8:Bool)(l_9 c_9:Nat)(h:H):Prop:=
 cnd (Ba n_1 (Int.ofNat 10))
 (J.a3 l_0 c_0 n_1 n_2 b_8 l_9 c_9 (Int.ofNat 1844674407370955162) h)
 (cnd (Ba n_1 (Int.ofNat 16))
 (J.a3 l_0 c_0 n_1 n_2 b_8 l_9 c_9 (Int.ofNat 1152921504606846976) h)
 (fI (wrap .u64 n_1) fun n81=>
 Akd .u64 (Int.ofNat 18446744073709551615) n81 fun n82=>
 fI (wrap .u64 (Cd n82 (Int.ofNat 1))) fun n83=>
 J.a3 l_0 c_0 n_1 n_2 b_8 l_9 c_9 n83 h))
def Ad4(_c:CF)(k:KV)(J:Tn)(l_0 c_0:Nat)(n_1 n_2:Int)(b_8:Bool)(l_9 c_9:Nat)(h:H):Prop:=
 cnd (Ba n_2 (Int.ofNat 0))
 (J.a4 l_0 c_0 n_1 (Int.ofNat 64) b_8 l_9 c_9 h)
 (Ao (fun k84=>gate false (Cl n_2 (Int.ofNat 0))
 (k84 (Cl (Int.ofNat 64) n_2) h)
 (k84 true h)) fun b86 h85=>
 cnd b86
 (k (.tuple [(.int .u64 (Int.ofNat 0)),(.iface 304 (.int .i64 (Int.ofNat 4)))]) h85)
 (J.a4 l_0 c_0 n_1 n_2 b_8 l_9 c_9 h85))
def z173:Tn:=⟨fun _ _ _ _ _=>False,fun _ _ _ _ _ _ _ _ _ _ _ _=>False,fun _ _ _ _ _ _ _ _ _ _ _ _ _=>False,fun _ _ _ _ _ _ _ _ _=>False,fun _ _ _ _ _ _ _ _=>False,fun _ _ _ _ _ _ _ _=>False⟩
def Pm(c:CF)(k:KV)(m:Nat):Tn:=Nat.rec z173 (fun _ J=>⟨Ad9 c k J,Ad8 c k J,Ad7 c k J,Ad6 c k J,Ad5 c k J,Ad4 c k J⟩) m
def f173(J:Tn):Jump:=fun L f h=>match L with
 |0=>asS (f 0) fun l_0 c_0=>asI .i64 (f 1) fun n_1=>asI .i64 (f 2) fun n_2=>J.a0 l_0 c_0 n_1 n_2 h
 |1=>asI .i64 (f 1) fun n_1=>asB (f 8) fun b_8=>asS (f 9) fun l_9 c_9=>asI .u64 (f 10) fun n_10=>asI .u64 (f 11) fun n_11=>asB (f 12) fun b_12=>asI .u64 (f 13) fun n_13=>asI .i64 (f 100) fun n_100=>asI .i64 (f 101) fun n_101=>J.a1 n_1 b_8 l_9 c_9 n_10 n_11 b_12 n_13 (f 99) n_100 n_101 h
 |2=>asI .i64 (f 1) fun n_1=>asB (f 8) fun b_8=>asS (f 9) fun l_9 c_9=>asI .u64 (f 10) fun n_10=>asI .u64 (f 11) fun n_11=>asB (f 12) fun b_12=>asI .u64 (f 13) fun n_13=>asI .u8 (f 16) fun n_16=>asI .i64 (f 100) fun n_100=>asI .i64 (f 101) fun n_101=>J.a2 n_1 b_8 l_9 c_9 n_10 n_11 b_12 n_13 n_16 (f 99) n_100 n_101 h
 |3=>asS (f 0) fun l_0 c_0=>asI .i64 (f 1) fun n_1=>asI .i64 (f 2) fun n_2=>asB (f 8) fun b_8=>asS (f 9) fun l_9 c_9=>asI .u64 (f 10) fun n_10=>J.a3 l_0 c_0 n_1 n_2 b_8 l_9 c_9 n_10 h
 |4=>asS (f 0) fun l_0 c_0=>asI .i64 (f 1) fun n_1=>asI .i64 (f 2) fun n_2=>asB (f 8) fun b_8=>asS (f 9) fun l_9 c_9=>J.a4 l_0 c_0 n_1 n_2 b_8 l_9 c_9 h
 |5=>asS (f 0) fun l_0 c_0=>asI .i64 (f 1) fun n_1=>asI .i64 (f 2) fun n_2=>asB (f 8) fun b_8=>asS (f 9) fun l_9 c_9=>J.a5 l_0 c_0 n_1 n_2 b_8 l_9 c_9 h
 |_=>False
def Ajw:Bm:=[(.root,0),((.l (.r (.l (.r (.r (.r (.r (.r (.r (.r (.r (.r (.r (.r .root)))))))))))))),1),((.r (.r (.r (.l (.l (.r (.r (.l (.l (.r (.l (.r (.r (.r (.r (.r (.r (.r (.r (.r (.r (.r .root)))))))))))))))))))))),2),((.r (.r (.r (.r (.r (.r (.r (.r .root)))))))),3),((.r (.r (.r (.r (.r (.r .root)))))),4),((.r (.r (.r (.r (.r .root))))),5)]
def d176:Code:=Option.rec .skip (fun c=>c) Tryz.f176.body
def A3i:Aw:=[]
def A2i:Bm:=[(.root,0)]
def d177:Code:=Option.rec .skip (fun c=>c) Tryz.f177.body
def A3h:Aw:=[]
structure Aw9 where
 a0:AV→H→Prop
def Ar7(c:CF)(k:KV)(_J:Aw9)(v_0:AV)(h:H):Prop:=
 oK (Cp v_0 h) fun v1 h2=>
 As 0 v1 fun v3=>
 c (.func 228) [v3] h2 fun _ h5=>
 k (.tuple []) h5
def Bg8:Aw9:=⟨fun _ _=>False⟩
def Akc(c:CF)(k:KV)(m:Nat):Aw9:=Nat.rec Bg8 (fun _ J=>⟨Ar7 c k J⟩) m
def f177(J:Aw9):Jump:=fun L f h=>match L with
 |0=>J.a0 (f 0) h
 |_=>False
def A2h:Bm:=[(.root,0)]
def d178:Code:=Option.rec .skip (fun c=>c) Tryz.f178.body
def A3g:Aw:=[(0,[0,1,2,3,4,5])]
structure Aw8 where
 a0:AV→Bool→H→Prop
def Ar6(c:CF)(k:KV)(_J:Aw8)(v_0:AV)(b_1:Bool)(h:H):Prop:=
 oK (Cp v_0 h) fun v1 h2=>
 As 0 v1 fun v3=>
 c (.func 230) [(.bool b_1)] h2 fun v4 h5=>
 asI .u32 v4 fun n6=>
 c (.func 229) [v3,(.int .u32 n6)] h5 fun _ h8=>
 k (.tuple []) h8
def Bg7:Aw8:=⟨fun _ _ _=>False⟩
def Akb(c:CF)(k:KV)(m:Nat):Aw8:=Nat.rec Bg7 (fun _ J=>⟨Ar6 c k J⟩) m
def f178(J:Aw8):Jump:=fun L f h=>match L with
 |0=>asB (f 1) fun b_1=>J.a0 (f 0) b_1 h
 |_=>False
def A2g:Bm:=[(.root,0)]
def d182:Code:=Option.rec .skip (fun c=>c) Tryz.f182.body
def A3f:Aw:=[]
def A2f:Bm:=[(.root,0)]
def d207:Code:=Option.rec .skip (fun c=>c) Tryz.f207.body
def Bar:Aw:=[]
structure Aw7 where
 a0:Nat→Nat→Int→H→Prop
def Ad3(c:CF)(k:KV)(_J:Aw7)(l_0 c_0:Nat)(n_1:Int)(h:H):Prop:=
 c (.func 257) [(.str l_0 c_0),(.int .u8 n_1)] h fun v1 h2=>
 asI .i64 v1 fun n3=>
 k (.int .i64 n3) h2
def Bg6:Aw7:=⟨fun _ _ _ _=>False⟩
def Asn(c:CF)(k:KV)(m:Nat):Aw7:=Nat.rec Bg6 (fun _ J=>⟨Ad3 c k J⟩) m
def f207(J:Aw7):Jump:=fun L f h=>match L with
 |0=>asS (f 0) fun l_0 c_0=>asI .u8 (f 1) fun n_1=>J.a0 l_0 c_0 n_1 h
 |_=>False
def A9l:Bm:=[(.root,0)]
def d208:Code:=Option.rec .skip (fun c=>c) Tryz.f208.body
def A3e:Aw:=[(3,[0,1,2,3,4,5,6,7,8,9,10,11,12])]
structure Alw where
 a0:AV→Int→H→Prop
 a1:AV→Int→H→Prop
def Ad2(c:CF)(_k:KV)(J:Alw)(v_0:AV)(n_1:Int)(h:H):Prop:=
 c (.func 110) [v_0] h fun _ h2=>
 cnd (Cl n_1 (Int.ofNat 0))
 (False)
 (J.a1 v_0 n_1 h2)
def Ad1(c:CF)(k:KV)(_J:Alw)(v_0:AV)(n_1:Int)(h:H):Prop:=
 oK (Cp v_0 h) fun v3 h4=>
 As 1 v3 fun v5=>
 ld1 v5 h4 fun v6=>
 oK (Az env .cap [115] [v6] h4) fun v7 h8=>
 asI .i64 v7 fun n9=>
 oK (Cp v_0 h8) fun v10 h11=>
 As 1 v10 fun v12=>
 ld1 v12 h11 fun v13=>
 Gn v13 fun m14=>
 fI (wrap .i64 (Hw n9 (Int.ofNat m14))) fun n15=>
 cnd (Cl n15 n_1)
 (c (.func 258) [v_0,(.int .i64 n_1)] h11 fun _ h17=>
 k (.tuple []) h17)
 (k (.tuple []) h11)
def z208:Alw:=⟨fun _ _ _=>False,fun _ _ _=>False⟩
def Aka(c:CF)(k:KV)(m:Nat):Alw:=Nat.rec z208 (fun _ J=>⟨Ad2 c k J,Ad1 c k J⟩) m
def f208(J:Alw):Jump:=fun L f h=>match L with
 |0=>asI .i64 (f 1) fun n_1=>J.a0 (f 0) n_1 h
 |1=>asI .i64 (f 1) fun n_1=>J.a1 (f 0) n_1 h
 |_=>False
def A2e:Bm:=[(.root,0),((.r (.r .root)),1)]
def d214:Code:=Option.rec .skip (fun c=>c) Tryz.f214.body
def A3d:Aw:=[]
def A2d:Bm:=[(.root,0)]
def d215:Code:=Option.rec .skip (fun c=>c) Tryz.f215.body
def Baq:Aw:=[]
structure Aw6 where
 a0:AV→Int→H→Prop
def Ad0(_c:CF)(k:KV)(_J:Aw6)(v_0:AV)(n_1:Int)(h:H):Prop:=
 oK (Cp v_0 h) fun v1 h2=>
 oK (Cy env 264 v1 (Bl (.int .u8 n_1)) h2) fun v3 h4=>
 ld1 v3 h4 fun v5=>
 asB v5 fun b6=>
 k (.bool b6) h4
def Bg5:Aw6:=⟨fun _ _ _=>False⟩
def Asm(c:CF)(k:KV)(m:Nat):Aw6:=Nat.rec Bg5 (fun _ J=>⟨Ad0 c k J⟩) m
def f215(J:Aw6):Jump:=fun L f h=>match L with
 |0=>asI .u8 (f 1) fun n_1=>J.a0 (f 0) n_1 h
 |_=>False
def A9k:Bm:=[(.root,0)]
def d219:Code:=Option.rec .skip (fun c=>c) Tryz.f219.body
def A3c:Aw:=[]
structure Alv where
 a0:Nat→Nat→AV→H→Prop
 a1:Nat→Nat→AV→H→Prop
def Adz(_c:CF)(_k:KV)(J:Alv)(l_0 c_0:Nat)(v_1:AV)(h:H):Prop:=
 J.a1 l_0 c_0 v_1 h
def Zi(c:CF)(k:KV)(J:Alv)(l_0 c_0:Nat)(v_1:AV)(h:H):Prop:=
 cnd (Cl (Int.ofNat 0) (Int.ofNat l_0))
 (Ci l_0 c_0 0 fun m1=>
 c (.func 215) [v_1,(.int .u8 (Int.ofNat m1))] h fun v2 h3=>
 asB v2 fun b4=>
 cnd (Cn b4)
 (k (.str l_0 c_0) h3)
 (Fm l_0 c_0 1 l_0 fun l5 c6=>
 J.a1 l5 c6 v_1 h3))
 (k (.str l_0 c_0) h)
def Bg4:Alv:=⟨fun _ _ _ _=>False,fun _ _ _ _=>False⟩
def Ahf(c:CF)(k:KV)(m:Nat):Alv:=Nat.rec Bg4 (fun _ J=>⟨Adz c k J,Zi c k J⟩) m
def f219(J:Alv):Jump:=fun L f h=>match L with
 |0=>asS (f 0) fun l_0 c_0=>J.a0 l_0 c_0 (f 1) h
 |1=>asS (f 0) fun l_0 c_0=>J.a1 l_0 c_0 (f 1) h
 |_=>False
def A2c:Bm:=[(.root,0),((.l (.l (.r .root))),1)]
def d221:Code:=Option.rec .skip (fun c=>c) Tryz.f221.body
def Bap:Aw:=[]
structure Aw5 where
 a0:Int→H→Prop
def Ady(_c:CF)(k:KV)(_J:Aw5)(n_0:Int)(h:H):Prop:=
 Abw Nat.lor .u8 n_0 (Int.ofNat 32) fun n1=>
 k (.int .u8 n1) h
def Bg3:Aw5:=⟨fun _ _=>False⟩
def Asl(c:CF)(k:KV)(m:Nat):Aw5:=Nat.rec Bg3 (fun _ J=>⟨Ady c k J⟩) m
def f221(J:Aw5):Jump:=fun L f h=>match L with
 |0=>asI .u8 (f 0) fun n_0=>J.a0 n_0 h
 |_=>False
def A9j:Bm:=[(.root,0)]
def d224:Code:=Option.rec .skip (fun c=>c) Tryz.f224.body
def Bao:Aw:=[(1,[0,1,3,2,4,5,6])]
structure Aw4 where
 a0:Nat→Nat→Nat→Nat→H→Prop
def Adx(c:CF)(k:KV)(_J:Aw4)(l_0 c_0:Nat)(l_1 c_1:Nat)(h:H):Prop:=
 ld1 (.ptr (.r (.r .z)) 0) h fun v1=>
 c (.func 265) [(.str l_1 c_1)] h fun v2 h3=>
 asS v2 fun l4 c5=>
 ld1 (.ptr (.r (.r .z)) 0) h3 fun v6=>
 eqC v6 v1<|
 oK (Bo env (env.ty 365) [(0,(.str l_0 c_0)),(1,(.str l4 c5)),(2,v1)] h3) fun v7 h8=>
 asG v7 fun g9=>
 chk (Nat.ble 1 (len g9))<|
 Hp.Fi h8 (rowOf 365 g9) fun p10 h11=>
 k (.ptr p10 0) h11
def Bg2:Aw4:=⟨fun _ _ _ _ _=>False⟩
def Asj(c:CF)(k:KV)(m:Nat):Aw4:=Nat.rec Bg2 (fun _ J=>⟨Adx c k J⟩) m
def f224(J:Aw4):Jump:=fun L f h=>match L with
 |0=>asS (f 0) fun l_0 c_0=>asS (f 1) fun l_1 c_1=>J.a0 l_0 c_0 l_1 c_1 h
 |_=>False
def A9i:Bm:=[(.root,0)]
def d227:Code:=Option.rec .skip (fun c=>c) Tryz.f227.body
def A3b:Aw:=[]
def A2b:Bm:=[(.root,0)]
def d228:Code:=Option.rec .skip (fun c=>c) Tryz.f228.body
def A3a:Aw:=[]
def A2a:Bm:=[(.root,0),((.r .root),1)]
def d230:Code:=Option.rec .skip (fun c=>c) Tryz.f230.body
def A29:Aw:=[]
def A19:Bm:=[(.root,0)]
def d258:Code:=Option.rec .skip (fun c=>c) Tryz.f258.body
def Ban:Aw:=[(0,[0,1,2,3,4,5,6,7,9,10,11,12,13,8,14,15])]
structure Aw3 where
 a0:AV→Int→H→Prop
def Adw(c:CF)(k:KV)(_J:Aw3)(v_0:AV)(n_1:Int)(h:H):Prop:=
 oK (Cp v_0 h) fun v1 h2=>
 As 1 v1 fun v3=>
 ld1 v3 h2 fun v4=>
 oK (Az env .cap [115] [v4] h2) fun v5 h6=>
 asI .i64 v5 fun n7=>
 fI (wrap .i64 ((Int.ofNat 2)*n7)) fun n8=>
 fI (wrap .i64 (Cd n8 n_1)) fun n9=>
 oK (Cp v_0 h6) fun v10 h11=>
 As 1 v10 fun v12=>
 ld1 v12 h11 fun v13=>
 Gn v13 fun m14=>
 c (.func 290) [(.int .i64 n9)] h11 fun v15 h16=>
 ld1 v12 h16 fun v17=>
 eqC v17 v13<|
 oK (slice3 env h16 115 v15 none (some (Bl (.int .i64 (Int.ofNat m14)))) none) fun v18 h19=>
 oK (Cp v_0 h19) fun v20 h21=>
 As 1 v20 fun v22=>
 ld1 v22 h21 fun v23=>
 oK (Az env .copy [115,115] [v18,v23] h21) fun v24 h25=>
 asI .i64 v24 fun _=>
 oK (Cp v_0 h25) fun v27 h28=>
 As 1 v27 fun v29=>
 st1 v29 v18 h28 fun h30=>
 k (.tuple []) h30
def Bg1:Aw3:=⟨fun _ _ _=>False⟩
def Asi(c:CF)(k:KV)(m:Nat):Aw3:=Nat.rec Bg1 (fun _ J=>⟨Adw c k J⟩) m
def f258(J:Aw3):Jump:=fun L f h=>match L with
 |0=>asI .i64 (f 1) fun n_1=>J.a0 (f 0) n_1 h
 |_=>False
def A9h:Bm:=[(.root,0)]
def d263:Code:=Option.rec .skip (fun c=>c) Tryz.f263.body
def A28:Aw:=[(3,[0,1,2,3,4,5,6,7,8])]
def A18:Bm:=[(.root,0),((.l (.r (.l (.r (.r (.r (.r .root))))))),1),((.r (.r (.l (.l (.r (.l (.r (.r (.r (.r .root)))))))))),2),((.l (.r (.l (.r (.l (.r (.l (.r (.r (.r (.r (.r .root)))))))))))),3),((.l (.r (.l (.r (.r (.l (.r (.l (.r (.r (.r (.r (.r .root))))))))))))),4),((.l (.r (.l (.r (.r (.r (.r (.r (.r (.r .root)))))))))),5),((.r (.r (.r (.l (.l (.r (.l (.l (.r (.l (.r (.r (.r (.r (.r (.r (.r .root))))))))))))))))),6)]
def d265:Code:=Option.rec .skip (fun c=>c) Tryz.f265.body
def Bam:Aw:=[]
structure Aw2 where
 a0:Nat→Nat→H→Prop
def Adv(_c:CF)(k:KV)(_J:Aw2)(l_0 c_0:Nat)(h:H):Prop:=
 cnd (Ba (Int.ofNat l_0) (Int.ofNat 0))
 (k (.str 0 0) h)
 (oK (Au env 115 (fun e ei=>Eh (Bl (.int .i64 (Int.ofNat l_0))) (Bl (.int .i64 (Int.ofNat l_0))) h e ei)) fun v1 h2=>
 oK (Az env .copy [115,9] [v1,(.str l_0 c_0)] h2) fun v3 h4=>
 asI .i64 v3 fun _=>
 Dd 1 0 v1 fun v6=>
 Gn v1 fun m7=>
 oK (Az env .unsafeString [225,3] [v6,(.int .i64 (Int.ofNat m7))] h4) fun v8 h9=>
 asS v8 fun l10 c11=>
 k (.str l10 c11) h9)
def Bg0:Aw2:=⟨fun _ _ _=>False⟩
def Ash(c:CF)(k:KV)(m:Nat):Aw2:=Nat.rec Bg0 (fun _ J=>⟨Adv c k J⟩) m
def f265(J:Aw2):Jump:=fun L f h=>match L with
 |0=>asS (f 0) fun l_0 c_0=>J.a0 l_0 c_0 h
 |_=>False
def A9g:Bm:=[(.root,0)]
def d374:Code:=Option.rec .skip (fun c=>c) Tryz.f374.body
def Ahk:Aw:=[(9,[0,1,2,3,4,5,6,7,8,9,10,11,12,13]),(28,[0,1,2,3,4,5,6,7,8,9,10,11,12])]
structure Qx where
 a0:AV→Nat→Nat→H→Prop
 a1:AV→Nat→Nat→Int→Bool→AV→Int→Int→H→Prop
 a2:AV→Nat→Nat→Int→Bool→Int→H→Prop
 a3:AV→Nat→Nat→Int→Bool→Int→H→Prop
 a4:AV→Nat→Nat→AV→Int→Int→H→Prop
 a5:AV→Nat→Nat→AV→Int→Int→H→Prop
 a6:AV→Nat→Nat→Int→Bool→H→Prop
def Adu(_c:CF)(_k:KV)(J:Qx)(v_0:AV)(l_1 c_1:Nat)(h:H):Prop:=
 oK (Cp v_0 h) fun v1 h2=>
 As 256 v1 fun v3=>
 ld1 v3 h2 fun v4=>
 Gn v4 fun m5=>
 fI (wrap .i64 ((Int.ofNat m5)*(Int.ofNat 8))) fun n6=>
 cnd (Fw n6 (Int.ofNat l_1))
 (oK (Cp v_0 h2) fun v7 h8=>
 As 256 v7 fun v9=>
 ld1 v9 h8 fun v10=>
 Gn v10 fun m11=>
 J.a1 v_0 l_1 c_1 (Int.ofNat l_1) false v10 (Int.ofNat m11) (Int.ofNat 0) h8)
 (J.a2 v_0 l_1 c_1 (Int.ofNat l_1) false (Int.ofNat 0) h2)
def Zh(c:CF)(_k:KV)(J:Qx)(v_0:AV)(l_1 c_1:Nat)(n_5:Int)(b_6:Bool)(v_30:AV)(n_31 n_32:Int)(h:H):Prop:=
 cnd (Cl n_32 n_31)
 (Bz n_32 fun m12=>
 Dd 1 m12 v_30 fun v13=>
 ld1 v13 h fun v14=>
 asS v14 fun l15 c16=>
 c (.func 376) [(.str l_1 c_1),(.str l15 c16)] h fun v17 h18=>
 asI .i64 v17 fun n19=>
 cnd (Cn (Ba n19 (Int.ofNat 0)))
 (Ci l15 c16 0 fun m20=>
 oK (Cp v_0 h18) fun v21 h22=>
 As 0 v21 fun v23=>
 oK (Cy env 410 v23 (Bl (.int .u8 (Int.ofNat m20))) h22) fun v24 h25=>
 ld1 v24 h25 fun v26=>
 Gn v26 fun m27=>
 fI (wrap .i64 (Hw (Int.ofNat m27) (Int.ofNat 1))) fun n28=>
 fI (wrap .i64 (n19*n28)) fun n29=>
 fI (wrap .i64 (Cd n_5 n29)) fun n30=>
 fI (wrap .i64 (Cd n_32 (Int.ofNat 1))) fun n31=>
 J.a1 v_0 l_1 c_1 n30 true v_30 n_31 n31 h25)
 (fI (wrap .i64 (Cd n_32 (Int.ofNat 1))) fun n32=>
 J.a1 v_0 l_1 c_1 n_5 b_6 v_30 n_31 n32 h18))
 (J.a6 v_0 l_1 c_1 n_5 b_6 h)
def Adt(_c:CF)(_k:KV)(J:Qx)(v_0:AV)(l_1 c_1:Nat)(n_5:Int)(b_6:Bool)(n_10:Int)(h:H):Prop:=
 cnd (Cl n_10 (Int.ofNat l_1))
 (Bz n_10 fun m33=>
 Ci l_1 c_1 m33 fun m34=>
 oK (Cp v_0 h) fun v35 h36=>
 As 0 v35 fun v37=>
 oK (Cy env 410 v37 (Bl (.int .u8 (Int.ofNat m34))) h36) fun v38 h39=>
 ld1 v38 h39 fun v40=>
 oV (Jk env .neq 115 v40 .Af) fun v41=>
 asB v41 fun b42=>
 cnd b42
 (oK (Cp v_0 h39) fun v43 h44=>
 As 0 v43 fun v45=>
 oK (Cy env 410 v45 (Bl (.int .u8 (Int.ofNat m34))) h44) fun v46 h47=>
 ld1 v46 h47 fun v48=>
 Gn v48 fun m49=>
 fI (wrap .i64 (Hw (Int.ofNat m49) (Int.ofNat 1))) fun n50=>
 fI (wrap .i64 (Cd n_5 n50)) fun n51=>
 J.a3 v_0 l_1 c_1 n51 true n_10 h47)
 (J.a3 v_0 l_1 c_1 n_5 b_6 n_10 h39))
 (J.a6 v_0 l_1 c_1 n_5 b_6 h)
def Zg(_c:CF)(_k:KV)(J:Qx)(v_0:AV)(l_1 c_1:Nat)(n_5:Int)(b_6:Bool)(n_10:Int)(h:H):Prop:=
 fI (wrap .i64 (Cd n_10 (Int.ofNat 1))) fun n52=>
 J.a2 v_0 l_1 c_1 n_5 b_6 n52 h
def Ads(_c:CF)(k:KV)(J:Qx)(v_0:AV)(l_1 c_1:Nat)(v_12:AV)(n_13 n_14:Int)(h:H):Prop:=
 cnd (Cl n_14 (Int.ofNat l_1))
 (Bz n_14 fun m53=>
 Ci l_1 c_1 m53 fun m54=>
 oK (Cp v_0 h) fun v55 h56=>
 As 0 v55 fun v57=>
 oK (Cy env 410 v57 (Bl (.int .u8 (Int.ofNat m54))) h56) fun v58 h59=>
 ld1 v58 h59 fun v60=>
 oV (Jk env .neq 115 v60 .Af) fun v61=>
 asB v61 fun b62=>
 cnd b62
 (oK (slice3 env h59 115 v_12 (some (Bl (.int .i64 n_13))) none none) fun v63 h64=>
 oK (Cp v_0 h64) fun v65 h66=>
 As 0 v65 fun v67=>
 oK (Cy env 410 v67 (Bl (.int .u8 (Int.ofNat m54))) h66) fun v68 h69=>
 ld1 v68 h69 fun v70=>
 oK (Az env .copy [115,115] [v63,v70] h69) fun v71 h72=>
 asI .i64 v71 fun n73=>
 fI (wrap .i64 (Cd n_13 n73)) fun n74=>
 J.a5 v_0 l_1 c_1 v_12 n74 n_14 h72)
 (Bz n_13 fun m75=>
 Dd 1 m75 v_12 fun v76=>
 st1 v76 (.int .u8 (Int.ofNat m54)) h59 fun h77=>
 fI (wrap .i64 (Cd n_13 (Int.ofNat 1))) fun n78=>
 J.a5 v_0 l_1 c_1 v_12 n78 n_14 h77))
 (oK (Fz env h 115 9 v_12) fun v79 h80=>
 asS v79 fun l81 c82=>
 k (.str l81 c82) h80)
def Adr(_c:CF)(_k:KV)(J:Qx)(v_0:AV)(l_1 c_1:Nat)(v_12:AV)(n_13 n_14:Int)(h:H):Prop:=
 fI (wrap .i64 (Cd n_14 (Int.ofNat 1))) fun n83=>
 J.a4 v_0 l_1 c_1 v_12 n_13 n83 h
def Adq(_c:CF)(k:KV)(J:Qx)(v_0:AV)(l_1 c_1:Nat)(n_5:Int)(b_6:Bool)(h:H):Prop:=
 cnd (Cn b_6)
 (k (.str l_1 c_1) h)
 (oK (Au env 115 (fun e ei=>Eh (Bl (.int .i64 n_5)) (Bl (.int .i64 n_5)) h e ei)) fun v84 h85=>
 J.a4 v_0 l_1 c_1 v84 (Int.ofNat 0) (Int.ofNat 0) h85)
def Bgz:Qx:=⟨fun _ _ _ _=>False,fun _ _ _ _ _ _ _ _ _=>False,fun _ _ _ _ _ _ _=>False,fun _ _ _ _ _ _ _=>False,fun _ _ _ _ _ _ _=>False,fun _ _ _ _ _ _ _=>False,fun _ _ _ _ _ _=>False⟩
def Lb(c:CF)(k:KV)(m:Nat):Qx:=Nat.rec Bgz (fun _ J=>⟨Adu c k J,Zh c k J,Adt c k J,Zg c k J,Ads c k J,Adr c k J,Adq c k J⟩) m
def f374(J:Qx):Jump:=fun L f h=>match L with
 |0=>asS (f 1) fun l_1 c_1=>J.a0 (f 0) l_1 c_1 h
 |1=>asS (f 1) fun l_1 c_1=>asI .i64 (f 5) fun n_5=>asB (f 6) fun b_6=>asI .i64 (f 31) fun n_31=>asI .i64 (f 32) fun n_32=>J.a1 (f 0) l_1 c_1 n_5 b_6 (f 30) n_31 n_32 h
 |2=>asS (f 1) fun l_1 c_1=>asI .i64 (f 5) fun n_5=>asB (f 6) fun b_6=>asI .i64 (f 10) fun n_10=>J.a2 (f 0) l_1 c_1 n_5 b_6 n_10 h
 |3=>asS (f 1) fun l_1 c_1=>asI .i64 (f 5) fun n_5=>asB (f 6) fun b_6=>asI .i64 (f 10) fun n_10=>J.a3 (f 0) l_1 c_1 n_5 b_6 n_10 h
 |4=>asS (f 1) fun l_1 c_1=>asI .i64 (f 13) fun n_13=>asI .i64 (f 14) fun n_14=>J.a4 (f 0) l_1 c_1 (f 12) n_13 n_14 h
 |5=>asS (f 1) fun l_1 c_1=>asI .i64 (f 13) fun n_13=>asI .i64 (f 14) fun n_14=>J.a5 (f 0) l_1 c_1 (f 12) n_13 n_14 h
 |6=>asS (f 1) fun l_1 c_1=>asI .i64 (f 5) fun n_5=>asB (f 6) fun b_6=>J.a6 (f 0) l_1 c_1 n_5 b_6 h
 |_=>False
def Agw:Bm:=[(.root,0),((.l (.r (.l (.r (.l (.r (.r (.r .root)))))))),1),((.l (.r (.r (.r (.l (.r (.r (.r .root)))))))),2),((.r (.r (.l (.l (.r (.r (.r (.l (.r (.r (.r .root))))))))))),3),((.l (.r (.l (.r (.r (.r (.r (.r (.r (.r .root)))))))))),4),((.r (.r (.l (.l (.r (.l (.r (.r (.r (.r (.r (.r (.r .root))))))))))))),5),((.r (.r (.r (.r .root)))),6)]
def d376:Code:=Option.rec .skip (fun c=>c) Tryz.f376.body
def Bal:Aw:=[]
structure Aw1 where
 a0:Nat→Nat→Nat→Nat→H→Prop
def Adp(c:CF)(k:KV)(_J:Aw1)(l_0 c_0:Nat)(l_1 c_1:Nat)(h:H):Prop:=
 cnd (Ba (Int.ofNat l_1) (Int.ofNat 0))
 (c (.func 377) [(.str l_0 c_0)] h fun v1 h2=>
 asI .i64 v1 fun n3=>
 fI (wrap .i64 (Cd n3 (Int.ofNat 1))) fun n4=>
 k (.int .i64 n4) h2)
 (cnd (Ba (Int.ofNat l_1) (Int.ofNat 1))
 (Ci l_1 c_1 0 fun m5=>
 c (.func 378) [(.str l_0 c_0),(.int .u8 (Int.ofNat m5))] h fun v6 h7=>
 asI .i64 v6 fun n8=>
 k (.int .i64 n8) h7)
 (False))
def Bgy:Aw1:=⟨fun _ _ _ _ _=>False⟩
def Asg(c:CF)(k:KV)(m:Nat):Aw1:=Nat.rec Bgy (fun _ J=>⟨Adp c k J⟩) m
def f376(J:Aw1):Jump:=fun L f h=>match L with
 |0=>asS (f 0) fun l_0 c_0=>asS (f 1) fun l_1 c_1=>J.a0 l_0 c_0 l_1 c_1 h
 |_=>False
def A9f:Bm:=[(.root,0),((.l (.r (.r (.r (.r .root))))),1)]
end Go.Den
