/-
 Proof. the functions, in pieces.
-/
import Derived.Test.YtheajahjkmfeaaaGreatDoorRunA
noncomputable section
namespace Go.Den
open Go.Proofs
set_option maxRecDepth 100000
def d3:Code:=Option.rec .skip (fun c=>c) Tryz.f3.body
def q3:Aq:=[(22,[0,1,2,3,4,5,6,7,8,9,10,11,12,13,14,15,16,18,19,20,21,22,23,17,24,25])]
structure J3 where
 a0:Nat→Nat→H→Prop
 a1:Nat→Nat→Int→H→Prop
 a2:Nat→Nat→AV→Int→Int→H→Prop
 a3:Nat→Nat→AV→Int→Int→AV→H→Prop
 a4:Nat→Nat→AV→Int→Int→H→Prop
def Az2(c:CF)(k:KV)(J:J3)(l_0 c_0:Nat)(h:H):Prop:=
 cnd (Ca (Int.ofNat 800) (Int.ofNat l_0))
 (c (.func 4) [] h fun v1 h2=>
 asB v1 fun b3=>
 k (.bool b3) h2)
 (J.a1 l_0 c_0 (Int.ofNat 0) h)
def Ath(c:CF)(k:KV)(J:J3)(l_0 c_0:Nat)(n_3:Int)(h:H):Prop:=
 cnd (Ca n_3 (Int.ofNat l_0))
 (Ce n_3 fun m4=>
 Ij l_0 c_0 m4 fun m5=>
 Ay (fun k6=>gate false (Bx (Int.ofNat m5) (Int.ofNat 35))
 (Ce n_3 fun m9=>
 Ij l_0 c_0 m9 fun m10=>
 k6 (Bx (Int.ofNat m10) (Int.ofNat 37)) h)
 (k6 true h)) fun b8 h7=>
 Ay (fun k11=>gate false b8
 (Ce n_3 fun m14=>
 Ij l_0 c_0 m14 fun m15=>
 k11 (Bx (Int.ofNat m15) (Int.ofNat 63)) h7)
 (k11 true h7)) fun b13 h12=>
 Ay (fun k16=>gate false b13
 (Ce n_3 fun m19=>
 Ij l_0 c_0 m19 fun m20=>
 k16 (Bx (Int.ofNat m20) (Int.ofNat 92)) h12)
 (k16 true h12)) fun b18 h17=>
 Ay (fun k21=>gate false b18
 (Ce n_3 fun m24=>
 Ij l_0 c_0 m24 fun m25=>
 k21 (Bx (Int.ofNat m25) (Int.ofNat 95)) h17)
 (k21 true h17)) fun b23 h22=>
 cnd b23
 (c (.func 4) [] h22 fun v26 h27=>
 asB v26 fun b28=>
 k (.bool b28) h27)
 (fI (wrap .i64 (Bq n_3 (Int.ofNat 1))) fun n29=>
 J.a1 l_0 c_0 n29 h22))
 (oK (Ax env (env.ty 28) [(0,(.str 3 6499937)),(1,(.str l_0 c_0))] h) fun v30 h31=>
 oK (Ap env 29 (fun e ei=>Ak 1 [(0,v30)] h31 e ei)) fun v32 h33=>
 c (.func 5) [.Ai,v32] h33 fun v34 h35=>
 ext 0 v34 fun v36=>
 ext 1 v34 fun _=>
 ext 2 v34 fun v38=>
 asB v38 fun b39=>
 cnd (Ci b39)
 (k (.bool false) h35)
 (oK (Ax env (env.ty 37) [(1,(.int .i64 (Int.ofNat 1))),(2,(.int .i64 (Int.ofNat 3000)))] h35) fun v40 h41=>
 c (.func 6) [v36,(.str 3 6499937),v40] h41 fun v42 h43=>
 Hp.Cs h43 A7j fun p44 h45=>
 stn 5 (.ptr p44 0) v42 h45 fun h46=>
 J.a2 l_0 c_0 (.ptr p44 0) (Int.ofNat 0) (Int.ofNat 0) h46))
def Atg(c:CF)(k:KV)(J:J3)(l_0 c_0:Nat)(v_7:AV)(n_8 n_9:Int)(h:H):Prop:=
 cnd (Ca n_9 (Int.ofNat l_0))
 (ldn 5 v_7 h fun v47=>
 fI (wrap .i64 (Bq n_9 (Int.ofNat 1))) fun n48=>
 oK (Ax env (env.ty 41) [(0,(.str 3 6499937)),(1,(.int .i64 n_9)),(2,(.int .i64 n48))] h) fun v49 h50=>
 c (.func 7) [v47,v49] h50 fun v51 h52=>
 J.a3 l_0 c_0 v_7 n_8 n_9 v51 h52)
 (Ac 4 v_7 fun v53=>
 ld1 v53 h fun v54=>
 asB v54 fun b55=>
 Ay (fun k56=>gate true (Ci b55)
 (c (.func 4) [] h fun v59 h60=>
 asB v59 fun b61=>
 k56 b61 h60)
 (k56 false h)) fun b58 h57=>
 k (.bool b58) h57)
def Atf(c:CF)(k:KV)(J:J3)(l_0 c_0:Nat)(v_7:AV)(n_8 n_9:Int)(v_10:AV)(h:H):Prop:=
 Ac 0 v_7 fun v62=>
 ld1 v62 h fun v63=>
 Cz v63 fun m64=>
 Ay (fun k65=>gate true (Ca n_8 (Int.ofNat m64))
 (Ac 0 v_7 fun v68=>
 ld1 v68 h fun v69=>
 Ce n_8 fun m70=>
 Cc 8 m70 v69 fun v71=>
 Ac 3 v71 fun v72=>
 Ac 2 v72 fun v73=>
 ld1 v73 h fun v74=>
 asI .i64 v74 fun n75=>
 k65 (Ef n75 n_9) h)
 (k65 false h)) fun b67 h66=>
 cnd b67
 (fI (wrap .i64 (Bq n_8 (Int.ofNat 1))) fun n76=>
 J.a3 l_0 c_0 v_7 n76 n_9 v_10 h66)
 (Ac 0 v_7 fun v77=>
 ld1 v77 h66 fun v78=>
 Cz v78 fun m79=>
 Ay (fun k80=>gate true (Ca n_8 (Int.ofNat m79))
 (Ac 0 v_7 fun v83=>
 ld1 v83 h66 fun v84=>
 Ce n_8 fun m85=>
 Cc 8 m85 v84 fun v86=>
 Ac 3 v86 fun v87=>
 Ac 1 v87 fun v88=>
 ld1 v88 h66 fun v89=>
 asI .i64 v89 fun n90=>
 k80 (Ef n90 n_9) h66)
 (k80 false h66)) fun b82 h81=>
 Ay (fun k91=>gate true b82
 (oK (Ap env 38 (fun e ei=>Ak 1 [(0,(.int .i64 n_8))] h81 e ei)) fun v94 h95=>
 c (.func 8) [v_10,v94] h95 fun v96 h97=>
 asB v96 fun b98=>
 k91 (Ci b98) h97)
 (k91 false h81)) fun b93 h92=>
 Ay (fun k99=>gate false b93
 (Ay (fun k102=>gate true (Ci b82)
 (Cz v_10 fun m105=>
 k102 (Ci (Bx (Int.ofNat m105) (Int.ofNat 0))) h92)
 (k102 false h92)) fun b104 h103=>
 k99 b104 h103)
 (k99 true h92)) fun b101 h100=>
 cnd b101
 (k (.bool false) h100)
 (Ay (fun k106=>gate true b82
 (Ac 0 v_7 fun v109=>
 ld1 v109 h100 fun v110=>
 Ce n_8 fun m111=>
 Cc 8 m111 v110 fun v112=>
 Ac 3 v112 fun v113=>
 Ac 1 v113 fun v114=>
 ld1 v114 h100 fun v115=>
 asI .i64 v115 fun n116=>
 Ac 0 v_7 fun v117=>
 ld1 v117 h100 fun v118=>
 Ce n_8 fun m119=>
 Cc 8 m119 v118 fun v120=>
 Ac 3 v120 fun v121=>
 Ac 2 v121 fun v122=>
 ld1 v122 h100 fun v123=>
 asI .i64 v123 fun n124=>
 Ac 0 v_7 fun v125=>
 ld1 v125 h100 fun v126=>
 Ce n_8 fun m127=>
 Cc 8 m127 v126 fun v128=>
 Ac 1 v128 fun v129=>
 ld1 v129 h100 fun v130=>
 asS v130 fun l131 c132=>
 c (.func 9) [(.str l_0 c_0),(.int .i64 n116),(.int .i64 n124)] h100 fun v133 h134=>
 asS v133 fun l135 c136=>
 ld1 v125 h134 fun v137=>
 eqC v137 v126<|
 ld1 v129 h134 fun v138=>
 asS v138 fun l139 c140=>
 eqC (.str l139 c140) (.str l131 c132)<|
 k106 (Ci (Dv l135 c136 l131 c132)) h134)
 (k106 false h100)) fun b108 h107=>
 cnd b108
 (k (.bool false) h107)
 (J.a4 l_0 c_0 v_7 n_8 n_9 h107)))
def Az1(_c:CF)(_k:KV)(J:J3)(l_0 c_0:Nat)(v_7:AV)(n_8 n_9:Int)(h:H):Prop:=
 fI (wrap .i64 (Bq n_9 (Int.ofNat 1))) fun n141=>
 J.a2 l_0 c_0 v_7 n_8 n141 h
def z3:J3:=⟨fun _ _ _=>False,fun _ _ _ _=>False,fun _ _ _ _ _ _=>False,fun _ _ _ _ _ _ _=>False,fun _ _ _ _ _ _=>False⟩
def r3(c:CF)(k:KV)(m:Nat):J3:=Nat.rec z3 (fun _ J=>⟨Az2 c k J,Ath c k J,Atg c k J,Atf c k J,Az1 c k J⟩) m
def f3(J:J3):Jump:=fun L f h=>match L with
 |0=>asS (f 0) fun l_0 c_0=>J.a0 l_0 c_0 h
 |1=>asS (f 0) fun l_0 c_0=>asI .i64 (f 3) fun n_3=>J.a1 l_0 c_0 n_3 h
 |2=>asS (f 0) fun l_0 c_0=>asI .i64 (f 8) fun n_8=>asI .i64 (f 9) fun n_9=>J.a2 l_0 c_0 (f 7) n_8 n_9 h
 |3=>asS (f 0) fun l_0 c_0=>asI .i64 (f 8) fun n_8=>asI .i64 (f 9) fun n_9=>J.a3 l_0 c_0 (f 7) n_8 n_9 (f 10) h
 |4=>asS (f 0) fun l_0 c_0=>asI .i64 (f 8) fun n_8=>asI .i64 (f 9) fun n_9=>J.a4 l_0 c_0 (f 7) n_8 n_9 h
 |_=>False
def u3:Bb:=[(.root,0),((.l (.r (.l (.r (.r .root))))),1),((.l (.r (.l (.r (.r (.r (.r (.r (.r (.r .root)))))))))),2),((.l (.l (.r (.l (.l (.r (.l (.l (.r (.l (.r (.r (.r (.r (.r (.r (.r .root))))))))))))))))),3),((.r (.r (.l (.l (.r (.l (.r (.r (.r (.r (.r (.r (.r .root))))))))))))),4)]
def d4:Code:=Option.rec .skip (fun c=>c) Tryz.f4.body
def q4:Aq:=[]
def u4:Bb:=[(.root,0)]
def d5:Code:=Option.rec .skip (fun c=>c) Tryz.f5.body
def q5:Aq:=[(8,[0,1,2,3,4,5,6,7,8,9,10,12,13,14,15,16,17,18,19,20,21,22,11,23,24])]
structure J5 where
 a0:AV→AV→H→Prop
 a1:AV→AV→AV→Int→H→Prop
def Az0(c:CF)(k:KV)(J:J5)(v_0 v_1:AV)(h:H):Prop:=
 c (.func 13) [v_0] h fun v1 h2=>
 ext 0 v1 fun v3=>
 ext 1 v1 fun v4=>
 asI .i64 v4 fun n5=>
 oK (Ax env (env.ty 57) [(0,v_0)] h2) fun v6 h7=>
 asG v6 fun g8=>
 chk (Nat.ble 1 (len g8))<|
 Hp.Cs h7 (rowOf 57 g8) fun p9 h10=>
 Ay (fun k11=>gate false (Ci (Bx n5 (Int.ofNat 0)))
 (oV (Hh env .eql 23 v3 .Cm) fun v14=>
 asB v14 fun b15=>
 k11 b15 h10)
 (k11 true h10)) fun b13 h12=>
 cnd b13
 (k (.tuple [.Cm,(.ptr p9 0),(.bool false)]) h12)
 (J.a1 v_1 v3 (.ptr p9 0) (Int.ofNat 0) h12)
def Azz(c:CF)(k:KV)(J:J5)(v_1 v_7 v_9:AV)(n_10:Int)(h:H):Prop:=
 Cz v_1 fun m16=>
 cnd (Ca n_10 (Int.ofNat m16))
 (Ce n_10 fun m17=>
 Cc 2 m17 v_1 fun v18=>
 Ac 0 v18 fun v19=>
 ld1 v19 h fun v20=>
 asS v20 fun l21 c22=>
 Ce n_10 fun m23=>
 Cc 2 m23 v_1 fun v24=>
 Ac 1 v24 fun v25=>
 ld1 v25 h fun v26=>
 asS v26 fun l27 c28=>
 Ce n_10 fun m29=>
 Cc 2 m29 v_1 fun v30=>
 Ac 0 v30 fun v31=>
 ld1 v31 h fun v32=>
 asS v32 fun l33 c34=>
 Ce n_10 fun m35=>
 Cc 2 m35 v_1 fun v36=>
 Ac 1 v36 fun v37=>
 ld1 v37 h fun v38=>
 asS v38 fun l39 c40=>
 c (.func 14) [v_7,(.str l21 c22),(.str l27 c28)] h fun v41 h42=>
 asI .i64 v41 fun n43=>
 ld1 v31 h42 fun v44=>
 asS v44 fun l45 c46=>
 eqC (.str l45 c46) (.str l33 c34)<|
 ld1 v37 h42 fun v47=>
 asS v47 fun l48 c49=>
 eqC (.str l48 c49) (.str l39 c40)<|
 c (.func 15) [v_9,(.str l33 c34),(.str l39 c40)] h42 fun v50 h51=>
 asI .i64 v50 fun n52=>
 cnd (Ci (Bx n43 n52))
 (k (.tuple [.Cm,v_9,(.bool false)]) h51)
 (fI (wrap .i64 (Bq n_10 (Int.ofNat 1))) fun n53=>
 J.a1 v_1 v_7 v_9 n53 h51))
 (k (.tuple [v_7,v_9,(.bool true)]) h)
def z5:J5:=⟨fun _ _ _=>False,fun _ _ _ _ _=>False⟩
def r5(c:CF)(k:KV)(m:Nat):J5:=Nat.rec z5 (fun _ J=>⟨Az0 c k J,Azz c k J⟩) m
def f5(J:J5):Jump:=fun L f h=>match L with
 |0=>J.a0 (f 0) (f 1) h
 |1=>asI .i64 (f 10) fun n_10=>J.a1 (f 1) (f 7) (f 9) n_10 h
 |_=>False
def u5:Bb:=[(.root,0),((.l (.r (.l (.r (.r (.r (.r .root))))))),1)]
def d6:Code:=Option.rec .skip (fun c=>c) Tryz.f6.body
def q6:Aq:=[]
structure J6 where
 a0:AV→Nat→Nat→AV→H→Prop
def Azy(c:CF)(k:KV)(_J:J6)(v_0:AV)(l_1 c_1:Nat)(v_2:AV)(h:H):Prop:=
 asG v_2 fun g1=>
 chk (Nat.ble 1 (len g1))<|
 Hp.Cs h (rowOf 37 g1) fun p2 h3=>
 Hp.Cs h3 A7j fun p4 h5=>
 ldn 3 (.ptr p2 0) h5 fun v6=>
 oK (Ax env (env.ty 64) [(0,(.func (.func 17) [] [])),(1,(.func (.func 18) [] []))] h5) fun v7 h8=>
 c (.func 16) [v_0,(.str l_1 c_1),v6,v7] h8 fun v9 h10=>
 stn 5 (.ptr p4 0) v9 h10 fun h11=>
 ldn 5 (.ptr p4 0) h11 fun v12=>
 k v12 h11
def z6:J6:=⟨fun _ _ _ _ _=>False⟩
def r6(c:CF)(k:KV)(m:Nat):J6:=Nat.rec z6 (fun _ J=>⟨Azy c k J⟩) m
def f6(J:J6):Jump:=fun L f h=>match L with
 |0=>asS (f 1) fun l_1 c_1=>J.a0 (f 0) l_1 c_1 (f 2) h
 |_=>False
def u6:Bb:=[(.root,0)]
def d7:Code:=Option.rec .skip (fun c=>c) Tryz.f7.body
def q7:Aq:=[]
structure J7 where
 a0:AV→AV→H→Prop
 a1:AV→AV→AV→Int→Int→H→Prop
def Azx(_c:CF)(_k:KV)(J:J7)(v_0 v_1:AV)(h:H):Prop:=
 asG v_0 fun g1=>
 chk (Nat.ble 1 (len g1))<|
 Hp.Cs h (rowOf 34 g1) fun p2 h3=>
 asG v_1 fun g4=>
 chk (Nat.ble 1 (len g4))<|
 Hp.Cs h3 (rowOf 41 g4) fun p5 h6=>
 Ac 0 (.ptr p2 0) fun v7=>
 ld1 v7 h6 fun v8=>
 Cz v8 fun m9=>
 J.a1 (.ptr p5 0) .Ai v8 (Int.ofNat m9) (Int.ofNat 0) h6
def Azw(c:CF)(k:KV)(J:J7)(v_3 v_4 v_9:AV)(n_10 n_11:Int)(h:H):Prop:=
 cnd (Ca n_11 n_10)
 (Ce n_11 fun m10=>
 Cc 8 m10 v_9 fun v11=>
 ldn 8 v11 h fun v12=>
 Hp.Cs h Aaj fun p13 h14=>
 stn 8 (.ptr p13 0) v12 h14 fun h15=>
 ldn 8 (.ptr p13 0) h15 fun v16=>
 c (.func 12) [v16] h15 fun v17 h18=>
 Hp.Cs h18 Aak fun p19 h20=>
 stn 3 (.ptr p19 0) v17 h20 fun h21=>
 Ac 0 (.ptr p19 0) fun v22=>
 ld1 v22 h21 fun v23=>
 asS v23 fun l24 c25=>
 Ac 0 v_3 fun v26=>
 ld1 v26 h21 fun v27=>
 asS v27 fun l28 c29=>
 Ay (fun k30=>gate true (Dv l24 c25 l28 c29)
 (Ac 1 (.ptr p19 0) fun v33=>
 ld1 v33 h21 fun v34=>
 asI .i64 v34 fun n35=>
 Ac 2 v_3 fun v36=>
 ld1 v36 h21 fun v37=>
 asI .i64 v37 fun n38=>
 k30 (Ca n35 n38) h21)
 (k30 false h21)) fun b32 h31=>
 Ay (fun k39=>gate true b32
 (Ac 2 (.ptr p19 0) fun v42=>
 ld1 v42 h31 fun v43=>
 asI .i64 v43 fun n44=>
 Ac 1 v_3 fun v45=>
 ld1 v45 h31 fun v46=>
 asI .i64 v46 fun n47=>
 k39 (Ca n47 n44) h31)
 (k39 false h31)) fun b41 h40=>
 cnd b41
 (oK (Ap env 38 (fun e ei=>Ak 1 [(0,(.int .i64 n_11))] h40 e ei)) fun v48 h49=>
 oK (Ar env .append [38,38] [v_4,v48] h49) fun v50 h51=>
 fI (wrap .i64 (Bq n_11 (Int.ofNat 1))) fun n52=>
 J.a1 v_3 v50 v_9 n_10 n52 h51)
 (fI (wrap .i64 (Bq n_11 (Int.ofNat 1))) fun n53=>
 J.a1 v_3 v_4 v_9 n_10 n53 h40))
 (k v_4 h)
def z7:J7:=⟨fun _ _ _=>False,fun _ _ _ _ _ _=>False⟩
def r7(c:CF)(k:KV)(m:Nat):J7:=Nat.rec z7 (fun _ J=>⟨Azx c k J,Azw c k J⟩) m
def f7(J:J7):Jump:=fun L f h=>match L with
 |0=>J.a0 (f 0) (f 1) h
 |1=>asI .i64 (f 10) fun n_10=>asI .i64 (f 11) fun n_11=>J.a1 (f 3) (f 4) (f 9) n_10 n_11 h
 |_=>False
def u7:Bb:=[(.root,0),((.l (.r (.l (.r .root)))),1)]
def d8:Code:=Option.rec .skip (fun c=>c) Tryz.f8.body
def q8:Aq:=[(6,[0,1,2,3,4,5,6,7,8])]
structure J8 where
 a0:AV→AV→H→Prop
 a1:AV→AV→Int→H→Prop
def Azv(_c:CF)(k:KV)(J:J8)(v_0 v_1:AV)(h:H):Prop:=
 Cz v_0 fun m1=>
 Cz v_1 fun m2=>
 cnd (Ci (Bx (Int.ofNat m1) (Int.ofNat m2)))
 (k (.bool false) h)
 (J.a1 v_0 v_1 (Int.ofNat 0) h)
def Azu(_c:CF)(k:KV)(J:J8)(v_0 v_1:AV)(n_5:Int)(h:H):Prop:=
 Cz v_0 fun m3=>
 cnd (Ca n_5 (Int.ofNat m3))
 (Ce n_5 fun m4=>
 Cc 1 m4 v_0 fun v5=>
 ld1 v5 h fun v6=>
 asI .i64 v6 fun n7=>
 Ce n_5 fun m8=>
 Cc 1 m8 v_1 fun v9=>
 ld1 v9 h fun v10=>
 asI .i64 v10 fun n11=>
 cnd (Ci (Bx n7 n11))
 (k (.bool false) h)
 (fI (wrap .i64 (Bq n_5 (Int.ofNat 1))) fun n12=>
 J.a1 v_0 v_1 n12 h))
 (k (.bool true) h)
def z8:J8:=⟨fun _ _ _=>False,fun _ _ _ _=>False⟩
def r8(c:CF)(k:KV)(m:Nat):J8:=Nat.rec z8 (fun _ J=>⟨Azv c k J,Azu c k J⟩) m
def f8(J:J8):Jump:=fun L f h=>match L with
 |0=>J.a0 (f 0) (f 1) h
 |1=>asI .i64 (f 5) fun n_5=>J.a1 (f 0) (f 1) n_5 h
 |_=>False
def u8:Bb:=[(.root,0),((.l (.r (.l (.r (.r .root))))),1)]
def d9:Code:=Option.rec .skip (fun c=>c) Tryz.f9.body
def q9:Aq:=[]
structure J9 where
 a0:Nat→Nat→Int→Int→H→Prop
 a1:Int→Int→AV→AV→Int→H→Prop
 a2:Int→Int→AV→AV→Int→H→Prop
def Azt(c:CF)(_k:KV)(J:J9)(l_0 c_0:Nat)(n_1 n_2:Int)(h:H):Prop:=
 c (.func 20) [(.str l_0 c_0)] h fun v1 h2=>
 c (.func 19) [v1] h2 fun v3 h4=>
 J.a1 n_1 n_2 v3 .Ai (Int.ofNat 0) h4
def Atd(_c:CF)(k:KV)(J:J9)(n_1 n_2:Int)(v_7 v_8:AV)(n_9:Int)(h:H):Prop:=
 Cz v_7 fun m5=>
 cnd (Ca n_9 (Int.ofNat m5))
 (Ce n_9 fun m6=>
 Cc 3 m6 v_7 fun v7=>
 Ac 1 v7 fun v8=>
 ld1 v8 h fun v9=>
 asI .i64 v9 fun n10=>
 Ay (fun k11=>gate true (Ef n_1 n10)
 (Ce n_9 fun m14=>
 Cc 3 m14 v_7 fun v15=>
 Ac 2 v15 fun v16=>
 ld1 v16 h fun v17=>
 asI .i64 v17 fun n18=>
 k11 (Ef n18 n_2) h)
 (k11 false h)) fun b13 h12=>
 cnd b13
 (Ce n_9 fun m19=>
 Cc 3 m19 v_7 fun v20=>
 Ac 0 v20 fun v21=>
 ld1 v21 h12 fun v22=>
 asI .u8 v22 fun n23=>
 oK (Ap env 68 (fun e ei=>Ak 1 [(0,(.int .u8 n23))] h12 e ei)) fun v24 h25=>
 oK (Ar env .append [68,68] [v_8,v24] h25) fun v26 h27=>
 J.a2 n_1 n_2 v_7 v26 n_9 h27)
 (J.a2 n_1 n_2 v_7 v_8 n_9 h12))
 (oK (Ia env h 68 9 v_8) fun v28 h29=>
 asS v28 fun l30 c31=>
 k (.str l30 c31) h29)
def Atc(_c:CF)(_k:KV)(J:J9)(n_1 n_2:Int)(v_7 v_8:AV)(n_9:Int)(h:H):Prop:=
 fI (wrap .i64 (Bq n_9 (Int.ofNat 1))) fun n32=>
 J.a1 n_1 n_2 v_7 v_8 n32 h
def z9:J9:=⟨fun _ _ _ _ _=>False,fun _ _ _ _ _ _=>False,fun _ _ _ _ _ _=>False⟩
def r9(c:CF)(k:KV)(m:Nat):J9:=Nat.rec z9 (fun _ J=>⟨Azt c k J,Atd c k J,Atc c k J⟩) m
def f9(J:J9):Jump:=fun L f h=>match L with
 |0=>asS (f 0) fun l_0 c_0=>asI .i64 (f 1) fun n_1=>asI .i64 (f 2) fun n_2=>J.a0 l_0 c_0 n_1 n_2 h
 |1=>asI .i64 (f 1) fun n_1=>asI .i64 (f 2) fun n_2=>asI .i64 (f 9) fun n_9=>J.a1 n_1 n_2 (f 7) (f 8) n_9 h
 |2=>asI .i64 (f 1) fun n_1=>asI .i64 (f 2) fun n_2=>asI .i64 (f 9) fun n_9=>J.a2 n_1 n_2 (f 7) (f 8) n_9 h
 |_=>False
def u9:Bb:=[(.root,0),((.l (.r (.l (.r (.r (.r .root)))))),1),((.r (.r (.l (.l (.r (.l (.r (.r (.r .root))))))))),2)]
def d10:Code:=Option.rec .skip (fun c=>c) Tryz.f10.body
def q10:Aq:=[]
def u10:Bb:=[(.root,0)]
def d11:Code:=Option.rec .skip (fun c=>c) Tryz.f11.body
def q11:Aq:=[]
def u11:Bb:=[(.root,0),((.l (.r (.l (.r (.r (.r .root)))))),1)]
def d12:Code:=Option.rec .skip (fun c=>c) Tryz.f12.body
def q12:Aq:=[]
structure J12 where
 a0:AV→H→Prop
def Ao4(c:CF)(k:KV)(_J:J12)(v_0:AV)(h:H):Prop:=
 asG v_0 fun g1=>
 chk (Nat.ble 1 (len g1))<|
 Hp.Cs h (rowOf 44 g1) fun p2 h3=>
 Hp.Cs h3 Aak fun p4 h5=>
 ldn 8 (.ptr p2 0) h5 fun v6=>
 c (.func 22) [v6] h5 fun v7 h8=>
 stn 3 (.ptr p4 0) v7 h8 fun h9=>
 ldn 3 (.ptr p4 0) h9 fun v10=>
 k v10 h9
def z12:J12:=⟨fun _ _=>False⟩
def r12(c:CF)(k:KV)(m:Nat):J12:=Nat.rec z12 (fun _ J=>⟨Ao4 c k J⟩) m
def f12(J:J12):Jump:=fun L f h=>match L with
 |0=>J.a0 (f 0) h
 |_=>False
def u12:Bb:=[(.root,0)]
def d13:Code:=Option.rec .skip (fun c=>c) Tryz.f13.body
def q13:Aq:=[]
structure J13 where
 a0:AV→H→Prop
def Ao3(c:CF)(k:KV)(_J:J13)(v_0:AV)(h:H):Prop:=
 Cz v_0 fun m1=>
 Ay (fun k2=>gate false (Ca (Int.ofNat 10) (Int.ofNat m1))
 (c (.func 25) [v_0,(.func (.func 23) [] [])] h fun v5 h6=>
 asB v5 fun b7=>
 k2 b7 h6)
 (k2 true h)) fun b4 h3=>
 cnd b4
 (k (.tuple [.Cm,(.int .i64 (Int.ofNat 1))]) h3)
 (c (.func 26) [v_0] h3 fun v8 h9=>
 Hp.Cs h9 (.map [] 0) fun p10 h11=>
 Hp.Cs h11 (.map [] 0) fun p12 h13=>
 oK (Ax env (env.ty 79) [(0,v8),(1,(.map p10)),(2,(.map p12))] h13) fun v14 h15=>
 asG v14 fun g16=>
 chk (Nat.ble 1 (len g16))<|
 Hp.Cs h15 (rowOf 79 g16) fun p17 h18=>
 k (.tuple [(.ptr p17 0),(.int .i64 (Int.ofNat 0))]) h18)
def z13:J13:=⟨fun _ _=>False⟩
def r13(c:CF)(k:KV)(m:Nat):J13:=Nat.rec z13 (fun _ J=>⟨Ao3 c k J⟩) m
def f13(J:J13):Jump:=fun L f h=>match L with
 |0=>J.a0 (f 0) h
 |_=>False
def u13:Bb:=[(.root,0)]
def d14:Code:=Option.rec .skip (fun c=>c) Tryz.f14.body
def q14:Aq:=[]
structure J14 where
 a0:AV→Nat→Nat→Nat→Nat→H→Prop
def Ao2(c:CF)(k:KV)(_J:J14)(v_0:AV)(l_1 c_1:Nat)(l_2 c_2:Nat)(h:H):Prop:=
 oV (Hh env .eql 23 v_0 .Cm) fun v1=>
 asB v1 fun b2=>
 cnd b2
 (k (.int .i64 (Int.ofNat 2)) h)
 (c (.func 24) [(.str l_1 c_1)] h fun v3 h4=>
 asB v3 fun b5=>
 cnd (Ci b5)
 (k (.int .i64 (Int.ofNat 1)) h4)
 (oK (Ag v_0 h4) fun v6 h7=>
 Ac 1 v6 fun v8=>
 ld1 v8 h7 fun v9=>
 oK (Db env 76 v9 (.str l_1 c_1) true h7) fun v10 h11=>
 ext 0 v10 fun _=>
 ext 1 v10 fun v13=>
 asB v13 fun b14=>
 cnd b14
 (k (.int .i64 (Int.ofNat 3)) h11)
 (oK (Ag v_0 h11) fun v15 h16=>
 Ac 1 v15 fun v17=>
 ld1 v17 h16 fun v18=>
 oK (Qc env [76] v18 h16) fun v19 h20=>
 asI .i64 v19 fun n21=>
 cnd (Ef (Int.ofNat 50) n21)
 (k (.int .i64 (Int.ofNat 4)) h20)
 (c (.func 27) [(.str l_2 c_2)] h20 fun v22 h23=>
 ext 0 v22 fun v24=>
 ext 1 v22 fun v25=>
 asI .i64 v25 fun n26=>
 c (.func 28) [v_0,(.str l_1 c_1),v24,(.int .i64 n26)] h23 fun v27 h28=>
 asI .i64 v27 fun n29=>
 k (.int .i64 n29) h28))))
def z14:J14:=⟨fun _ _ _ _ _ _=>False⟩
def r14(c:CF)(k:KV)(m:Nat):J14:=Nat.rec z14 (fun _ J=>⟨Ao2 c k J⟩) m
def f14(J:J14):Jump:=fun L f h=>match L with
 |0=>asS (f 1) fun l_1 c_1=>asS (f 2) fun l_2 c_2=>J.a0 (f 0) l_1 c_1 l_2 c_2 h
 |_=>False
def u14:Bb:=[(.root,0)]
def d15:Code:=Option.rec .skip (fun c=>c) Tryz.f15.body
def q15:Aq:=[]
structure J15 where
 a0:AV→Nat→Nat→Nat→Nat→H→Prop
def Ao1(c:CF)(k:KV)(_J:J15)(v_0:AV)(l_1 c_1:Nat)(l_2 c_2:Nat)(h:H):Prop:=
 c (.func 29) [v_0,(.str l_1 c_1)] h fun v1 h2=>
 ext 0 v1 fun v3=>
 asI .i64 v3 fun _=>
 ext 1 v1 fun v5=>
 asB v5 fun b6=>
 c (.func 30) [(.str l_1 c_1)] h2 fun v7 h8=>
 asB v7 fun b9=>
 cnd (Ci b9)
 (k (.int .i64 (Int.ofNat 1)) h8)
 (cnd b6
 (k (.int .i64 (Int.ofNat 3)) h8)
 (oK (Ag v_0 h8) fun v10 h11=>
 Ac 1 v10 fun v12=>
 ld1 v12 h11 fun v13=>
 Cz v13 fun m14=>
 Ay (fun k15=>gate false (Ef (Int.ofNat 50) (Int.ofNat m14))
 (k15 (Ca (Int.ofNat 65536) (Int.ofNat l_2)) h11)
 (k15 true h11)) fun b17 h16=>
 cnd b17
 (k (.int .i64 (Int.ofNat 4)) h16)
 (c (.func 31) [v_0,(.str l_1 c_1),(.str l_2 c_2)] h16 fun _ h19=>
 k (.int .i64 (Int.ofNat 0)) h19)))
def z15:J15:=⟨fun _ _ _ _ _ _=>False⟩
def r15(c:CF)(k:KV)(m:Nat):J15:=Nat.rec z15 (fun _ J=>⟨Ao1 c k J⟩) m
def f15(J:J15):Jump:=fun L f h=>match L with
 |0=>asS (f 1) fun l_1 c_1=>asS (f 2) fun l_2 c_2=>J.a0 (f 0) l_1 c_1 l_2 c_2 h
 |_=>False
def u15:Bb:=[(.root,0)]
def d16:Code:=Option.rec .skip (fun c=>c) Tryz.f16.body
def q16:Aq:=[(4,[0,1,2,4,5,7,8,3,6,9,10,11])]
structure J16 where
 a0:AV→Nat→Nat→AV→AV→H→Prop
def Ao0(c:CF)(k:KV)(_J:J16)(v_0:AV)(l_1 c_1:Nat)(v_2 v_3:AV)(h:H):Prop:=
 asG v_2 fun g1=>
 chk (Nat.ble 1 (len g1))<|
 Hp.Cs h (rowOf 37 g1) fun p2 h3=>
 asG v_3 fun g4=>
 chk (Nat.ble 1 (len g4))<|
 Hp.Cs h3 (rowOf 64 g4) fun p5 h6=>
 Hp.Cs h6 A7j fun p7 h8=>
 c (.func 32) [v_0,(.str l_1 c_1)] h8 fun v9 h10=>
 ext 0 v9 fun _=>
 ext 1 v9 fun v12=>
 asB v12 fun b13=>
 Ay (fun k14=>gate false (Ci b13)
 (ldn 3 (.ptr p2 0) h10 fun v17=>
 c (.func 33) [v17] h10 fun v18 h19=>
 asB v18 fun b20=>
 k14 (Ci b20) h19)
 (k14 true h10)) fun b16 h15=>
 cnd b16
 (oK (Ax env (env.ty 34) [] h15) fun v21 h22=>
 stn 5 (.ptr p7 0) v21 h22 fun h23=>
 ldn 5 (.ptr p7 0) h23 fun v24=>
 k v24 h23)
 (ldn 3 (.ptr p2 0) h15 fun v25=>
 ldn 2 (.ptr p5 0) h15 fun v26=>
 Ac 2 (.ptr p2 0) fun v27=>
 ld1 v27 h15 fun v28=>
 asI .i64 v28 fun n29=>
 Hp.Cs h15 (.map [] 0) fun p30 h31=>
 ldn 3 (.ptr p2 0) h31 fun v32=>
 eqC v32 v25<|
 ldn 2 (.ptr p5 0) h31 fun v33=>
 eqC v33 v26<|
 ld1 v27 h31 fun v34=>
 asI .i64 v34 fun n35=>
 eqC (.int .i64 n35) (.int .i64 n29)<|
 Hp.Cs h31 (.map [] 0) fun p36 h37=>
 ldn 3 (.ptr p2 0) h37 fun v38=>
 eqC v38 v25<|
 ldn 2 (.ptr p5 0) h37 fun v39=>
 eqC v39 v26<|
 ld1 v27 h37 fun v40=>
 asI .i64 v40 fun n41=>
 eqC (.int .i64 n41) (.int .i64 n29)<|
 c (.func 34) [] h37 fun v42 h43=>
 ldn 3 (.ptr p2 0) h43 fun v44=>
 eqC v44 v25<|
 ldn 2 (.ptr p5 0) h43 fun v45=>
 eqC v45 v26<|
 ld1 v27 h43 fun v46=>
 asI .i64 v46 fun n47=>
 eqC (.int .i64 n47) (.int .i64 n29)<|
 c (.func 35) [(.int .i64 n29)] h43 fun v48 h49=>
 ldn 3 (.ptr p2 0) h49 fun v50=>
 eqC v50 v25<|
 ldn 2 (.ptr p5 0) h49 fun v51=>
 eqC v51 v26<|
 oK (Ax env (env.ty 97) [(0,v_0),(1,v25),(2,v26),(3,v42),(4,v48),(6,(.map p30)),(7,(.map p36))] h49) fun v52 h53=>
 asG v52 fun g54=>
 chk (Nat.ble 1 (len g54))<|
 Hp.Cs h53 (rowOf 97 g54) fun p55 h56=>
 c (.func 36) [(.ptr p55 0),(.str l_1 c_1)] h56 fun _ h58=>
 oK (Ag (.ptr p55 0) h58) fun v59 h60=>
 Ac 13 v59 fun v61=>
 ld1 v61 h60 fun v62=>
 c (.func 38) [v62] h60 fun v63 h64=>
 c (.func 37) [v63] h64 fun v65 h66=>
 oK (Ag (.ptr p55 0) h66) fun v67 h68=>
 Ac 8 v67 fun v69=>
 Ac 2 v69 fun v70=>
 st1 v70 v65 h68 fun h71=>
 oK (Ag (.ptr p55 0) h71) fun v72 h73=>
 Ac 14 v72 fun v74=>
 ld1 v74 h73 fun v75=>
 c (.func 38) [v75] h73 fun v76 h77=>
 c (.func 37) [v76] h77 fun v78 h79=>
 oK (Ag (.ptr p55 0) h79) fun v80 h81=>
 Ac 8 v80 fun v82=>
 Ac 3 v82 fun v83=>
 st1 v83 v78 h81 fun h84=>
 oK (Ag (.ptr p55 0) h84) fun v85 h86=>
 Ac 8 v85 fun v87=>
 ldn 5 v87 h86 fun v88=>
 stn 5 (.ptr p7 0) v88 h86 fun h89=>
 ldn 5 (.ptr p7 0) h89 fun v90=>
 k v90 h89)
def z16:J16:=⟨fun _ _ _ _ _ _=>False⟩
def r16(c:CF)(k:KV)(m:Nat):J16:=Nat.rec z16 (fun _ J=>⟨Ao0 c k J⟩) m
def f16(J:J16):Jump:=fun L f h=>match L with
 |0=>asS (f 1) fun l_1 c_1=>J.a0 (f 0) l_1 c_1 (f 2) (f 3) h
 |_=>False
def u16:Bb:=[(.root,0)]
def d17:Code:=Option.rec .skip (fun c=>c) Tryz.f17.body
def q17:Aq:=[]
structure J17 where
 a0:Nat→Nat→Nat→Nat→H→Prop
 a1:Nat→Nat→AV→Int→Int→H→Prop
def Aoz(c:CF)(_k:KV)(J:J17)(l_0 c_0:Nat)(l_1 c_1:Nat)(h:H):Prop:=
 Hp.Cs h A25 fun p1 h2=>
 c (.func 39) [(.str l_0 c_0),(.str l_1 c_1)] h2 fun v3 h4=>
 ext 0 v3 fun v5=>
 ext 1 v3 fun v6=>
 Ac 0 (.ptr p1 0) fun v7=>
 st1 v7 v5 h4 fun h8=>
 Ac 1 (.ptr p1 0) fun v9=>
 st1 v9 v6 h8 fun h10=>
 J.a1 l_1 c_1 (.ptr p1 0) (Int.ofNat l_1) (Int.ofNat 0) h10
def Aoy(_c:CF)(k:KV)(J:J17)(l_1 c_1:Nat)(v_4:AV)(n_15 n_16:Int)(h:H):Prop:=
 cnd (Ca n_16 n_15)
 (Ce n_16 fun m11=>
 Ij l_1 c_1 m11 fun m12=>
 cnd (Bx (Int.ofNat m12) (Int.ofNat 10))
 (Ac 2 v_4 fun v13=>
 ld1 v13 h fun v14=>
 fI (wrap .i64 (Bq n_16 (Int.ofNat 1))) fun n15=>
 oK (Ap env 38 (fun e ei=>Ak 1 [(0,(.int .i64 n15))] h e ei)) fun v16 h17=>
 oK (Ar env .append [38,38] [v14,v16] h17) fun v18 h19=>
 Ac 2 v_4 fun v20=>
 st1 v20 v18 h19 fun h21=>
 fI (wrap .i64 (Bq n_16 (Int.ofNat 1))) fun n22=>
 J.a1 l_1 c_1 v_4 n_15 n22 h21)
 (fI (wrap .i64 (Bq n_16 (Int.ofNat 1))) fun n23=>
 J.a1 l_1 c_1 v_4 n_15 n23 h))
 (ldn 3 v_4 h fun v24=>
 stn 3 v_4 v24 h fun h25=>
 ldn 3 v_4 h25 fun v26=>
 k v26 h25)
def z17:J17:=⟨fun _ _ _ _ _=>False,fun _ _ _ _ _ _=>False⟩
def r17(c:CF)(k:KV)(m:Nat):J17:=Nat.rec z17 (fun _ J=>⟨Aoz c k J,Aoy c k J⟩) m
def f17(J:J17):Jump:=fun L f h=>match L with
 |0=>asS (f 0) fun l_0 c_0=>asS (f 1) fun l_1 c_1=>J.a0 l_0 c_0 l_1 c_1 h
 |1=>asS (f 1) fun l_1 c_1=>asI .i64 (f 15) fun n_15=>asI .i64 (f 16) fun n_16=>J.a1 l_1 c_1 (f 4) n_15 n_16 h
 |_=>False
def u17:Bb:=[(.root,0),((.l (.r (.l (.r (.r .root))))),1)]
def d18:Code:=Option.rec .skip (fun c=>c) Tryz.f18.body
def q18:Aq:=[(5,[0,1,2,3,4,5,6,7,8,9,10,11]),(12,[0,1,2,3,4,5,6,7,8,9,10,11,12,13,14,15,16,17,18,19,20,23,21,22,24,25,26,27,28]),(4294967294,[9]),(4294967295,[89])]
def Cu:LpS:=A7w q18 (Pk d18 (.l (.r (.l (.r (.r .root))))))
structure J18 where
 a0:AV→AV→AV→AV→H→Prop
 a1:AV→AV→AV→Int→Int→H→Prop
def Aox(c:CF)(_k:KV)(J:J18)(v_0 v_1:AV)(v_2 v_3:AV)(h:H):Prop:=
 asG v_2 fun g1=>
 chk (Nat.ble 1 (len g1))<|
 Hp.Cs h (rowOf 109 g1) fun p2 h3=>
 Hp.Cs h3 Bd9 fun p4 h5=>
 ldn 3 (.ptr p2 0) h5 fun v6=>
 Hp.Cs h5 (.map [] 0) fun p7 h8=>
 oK (Ax env (env.ty 115) [(0,v_0),(1,v6),(2,v_3),(3,(.map p7))] h8) fun v9 h10=>
 asG v9 fun g11=>
 chk (Nat.ble 1 (len g11))<|
 Hp.Cs h10 (rowOf 115 g11) fun p12 h13=>
 oK (Ax env (env.ty 118) [(0,(.ptr p12 0)),(1,(.bool true))] h13) fun v14 h15=>
 asG v14 fun g16=>
 chk (Nat.ble 1 (len g16))<|
 Hp.Cs h15 (rowOf 118 g16) fun p17 h18=>
 Hp.Cs h18 Bd8 fun p19 h20=>
 st1 (.ptr p19 0) (.ptr p17 0) h20 fun h21=>
 c (.func 40) [v_1] h21 fun v22 h23=>
 Qq env c Cu v22 (Ao (fun _=>.top) 9 (.ptr p19 0)) h23 fun x24 h25=>
 cnd (Xh x24 .normal)
 (ld1 (.ptr p19 0) h25 fun v26=>
 c (.func 42) [v26] h25 fun v27 h28=>
 Cz v27 fun m29=>
 J.a1 (.ptr p4 0) (.ptr p19 0) v27 (Int.ofNat m29) (Int.ofNat 0) h28)
 (False)
def Ahr(c:CF)(k:KV)(J:J18)(v_8 v_9 v_42:AV)(n_43 n_44:Int)(h:H):Prop:=
 cnd (Ca n_44 n_43)
 (Ce n_44 fun m30=>
 Cc 9 m30 v_42 fun v31=>
 ldn 9 v31 h fun v32=>
 Hp.Cs h Aun fun p33 h34=>
 stn 9 (.ptr p33 0) v32 h34 fun h35=>
 Ac 0 (.ptr p33 0) fun v36=>
 Ac 7 v36 fun v37=>
 ld1 v37 h35 fun v38=>
 c (.func 41) [v38] h35 fun v39 h40=>
 Ac 0 (.ptr p33 0) fun v41=>
 Ac 7 v41 fun v42=>
 st1 v42 v39 h40 fun h43=>
 Ac 0 v_8 fun v44=>
 ld1 v44 h43 fun v45=>
 Ac 0 (.ptr p33 0) fun v46=>
 ldn 8 v46 h43 fun v47=>
 oK (Ap env 30 (fun e ei=>Ak 1 [(0,v47)] h43 e ei)) fun v48 h49=>
 oK (Ar env .append [30,30] [v45,v48] h49) fun v50 h51=>
 Ac 0 v_8 fun v52=>
 st1 v52 v50 h51 fun h53=>
 fI (wrap .i64 (Bq n_44 (Int.ofNat 1))) fun n54=>
 J.a1 v_8 v_9 v_42 n_43 n54 h53)
 (ld1 v_9 h fun v55=>
 oK (Ag v55 h) fun v56 h57=>
 Ac 0 v56 fun v58=>
 ld1 v58 h57 fun v59=>
 oK (Ag v59 h57) fun v60 h61=>
 Ac 6 v60 fun v62=>
 ld1 v62 h61 fun v63=>
 ld1 v_9 h61 fun v64=>
 oK (Ag v64 h61) fun v65 h66=>
 Ac 0 v65 fun v67=>
 ld1 v67 h66 fun v68=>
 oK (Ag v68 h66) fun v69 h70=>
 Ac 7 v69 fun v71=>
 ld1 v71 h70 fun v72=>
 asB v72 fun b73=>
 ld1 v_9 h70 fun v74=>
 oK (Ag v74 h70) fun v75 h76=>
 Ac 0 v75 fun v77=>
 ld1 v77 h76 fun v78=>
 oK (Ag v78 h76) fun v79 h80=>
 Ac 5 v79 fun v81=>
 ld1 v81 h80 fun v82=>
 Ac 1 v_8 fun v83=>
 c (.func 38) [v82] h80 fun v84 h85=>
 ld1 v_9 h85 fun v86=>
 eqC v86 v55<|
 ld1 v58 h85 fun v87=>
 eqC v87 v59<|
 ld1 v62 h85 fun v88=>
 eqC v88 v63<|
 ld1 v_9 h85 fun v89=>
 eqC v89 v64<|
 ld1 v67 h85 fun v90=>
 eqC v90 v68<|
 ld1 v71 h85 fun v91=>
 asB v91 fun b92=>
 eqC (.bool b92) (.bool b73)<|
 c (.func 37) [v84] h85 fun v93 h94=>
 ld1 v_9 h94 fun v95=>
 eqC v95 v55<|
 ld1 v58 h94 fun v96=>
 eqC v96 v59<|
 ld1 v62 h94 fun v97=>
 eqC v97 v63<|
 ld1 v_9 h94 fun v98=>
 eqC v98 v64<|
 ld1 v67 h94 fun v99=>
 eqC v99 v68<|
 ld1 v71 h94 fun v100=>
 asB v100 fun b101=>
 eqC (.bool b101) (.bool b73)<|
 st1 v83 v63 h94 fun h102=>
 ld1 v_9 h102 fun v103=>
 eqC v103 v64<|
 ld1 v67 h102 fun v104=>
 eqC v104 v68<|
 ld1 v71 h102 fun v105=>
 asB v105 fun b106=>
 eqC (.bool b106) (.bool b73)<|
 Ac 2 v_8 fun v107=>
 st1 v107 (.bool b73) h102 fun h108=>
 Ac 3 v_8 fun v109=>
 st1 v109 v93 h108 fun h110=>
 ldn 4 v_8 h110 fun v111=>
 stn 4 v_8 v111 h110 fun h112=>
 ldn 4 v_8 h112 fun v113=>
 k v113 h112)
def z18:J18:=⟨fun _ _ _ _ _=>False,fun _ _ _ _ _ _=>False⟩
def r18(c:CF)(k:KV)(m:Nat):J18:=Nat.rec z18 (fun _ J=>⟨Aox c k J,Ahr c k J⟩) m
def f18(J:J18):Jump:=fun L f h=>match L with
 |0=>J.a0 (f 0) (f 1) (f 2) (f 3) h
 |1=>asI .i64 (f 43) fun n_43=>asI .i64 (f 44) fun n_44=>J.a1 (f 8) (f 9) (f 42) n_43 n_44 h
 |_=>False
def u18:Bb:=[(.root,0),((.l (.r (.l (.r (.r (.r .root)))))),1)]
def d19:Code:=Option.rec .skip (fun c=>c) Tryz.f19.body
def q19:Aq:=[]
structure J19 where
 a0:AV→H→Prop
 a1:AV→AV→Int→H→Prop
 a2:AV→AV→Int→H→Prop
def Aow(_c:CF)(_k:KV)(J:J19)(v_0:AV)(h:H):Prop:=
 J.a1 v_0 .Ai (Int.ofNat 0) h
def Ahq(_c:CF)(k:KV)(J:J19)(v_0 v_3:AV)(n_4:Int)(h:H):Prop:=
 Cz v_0 fun m1=>
 cnd (Ca n_4 (Int.ofNat m1))
 (Ce n_4 fun m2=>
 Cc 3 m2 v_0 fun v3=>
 Ac 0 v3 fun v4=>
 ld1 v4 h fun v5=>
 asI .u8 v5 fun n6=>
 Ay (fun k7=>gate true (Bx n6 (Int.ofNat 92))
 (fI (wrap .i64 (Bq n_4 (Int.ofNat 1))) fun n10=>
 Cz v_0 fun m11=>
 k7 (Ca n10 (Int.ofNat m11)) h)
 (k7 false h)) fun b9 h8=>
 Ay (fun k12=>gate true b9
 (fI (wrap .i64 (Bq n_4 (Int.ofNat 1))) fun n15=>
 Ce n15 fun m16=>
 Cc 3 m16 v_0 fun v17=>
 Ac 0 v17 fun v18=>
 ld1 v18 h8 fun v19=>
 asI .u8 v19 fun n20=>
 k12 (Bx n20 (Int.ofNat 10)) h8)
 (k12 false h8)) fun b14 h13=>
 cnd b14
 (fI (wrap .i64 (Bq n_4 (Int.ofNat 1))) fun n21=>
 J.a2 v_0 v_3 n21 h13)
 (Ce n_4 fun m22=>
 Cc 3 m22 v_0 fun v23=>
 ldn 3 v23 h13 fun v24=>
 oK (Ap env 65 (fun e ei=>Ak 1 [(0,v24)] h13 e ei)) fun v25 h26=>
 oK (Ar env .append [65,65] [v_3,v25] h26) fun v27 h28=>
 J.a2 v_0 v27 n_4 h28))
 (k v_3 h)
def Ahp(_c:CF)(_k:KV)(J:J19)(v_0 v_3:AV)(n_4:Int)(h:H):Prop:=
 fI (wrap .i64 (Bq n_4 (Int.ofNat 1))) fun n29=>
 J.a1 v_0 v_3 n29 h
def z19:J19:=⟨fun _ _=>False,fun _ _ _ _=>False,fun _ _ _ _=>False⟩
def r19(c:CF)(k:KV)(m:Nat):J19:=Nat.rec z19 (fun _ J=>⟨Aow c k J,Ahq c k J,Ahp c k J⟩) m
def f19(J:J19):Jump:=fun L f h=>match L with
 |0=>J.a0 (f 0) h
 |1=>asI .i64 (f 4) fun n_4=>J.a1 (f 0) (f 3) n_4 h
 |2=>asI .i64 (f 4) fun n_4=>J.a2 (f 0) (f 3) n_4 h
 |_=>False
def u19:Bb:=[(.root,0),((.l (.r (.l (.r (.r .root))))),1),((.r (.r (.l (.l (.r (.l (.r (.r .root)))))))),2)]
def d20:Code:=Option.rec .skip (fun c=>c) Tryz.f20.body
def q20:Aq:=[]
structure J20 where
 a0:Nat→Nat→H→Prop
 a1:Nat→Nat→AV→Int→H→Prop
 a2:Nat→Nat→AV→Int→H→Prop
def Aov(_c:CF)(_k:KV)(J:J20)(l_0 c_0:Nat)(h:H):Prop:=
 J.a1 l_0 c_0 .Ai (Int.ofNat 0) h
def Aou(c:CF)(k:KV)(J:J20)(l_0 c_0:Nat)(v_3:AV)(n_4:Int)(h:H):Prop:=
 cnd (Ca n_4 (Int.ofNat l_0))
 (fI (wrap .i64 (Bq n_4 (Int.ofNat 2))) fun n1=>
 Ay (fun k2=>gate true (Ca n1 (Int.ofNat l_0))
 (Ce n_4 fun m5=>
 Ij l_0 c_0 m5 fun m6=>
 k2 (Bx (Int.ofNat m6) (Int.ofNat 63)) h)
 (k2 false h)) fun b4 h3=>
 Ay (fun k7=>gate true b4
 (fI (wrap .i64 (Bq n_4 (Int.ofNat 1))) fun n10=>
 Ce n10 fun m11=>
 Ij l_0 c_0 m11 fun m12=>
 k7 (Bx (Int.ofNat m12) (Int.ofNat 63)) h3)
 (k7 false h3)) fun b9 h8=>
 cnd b9
 (fI (wrap .i64 (Bq n_4 (Int.ofNat 2))) fun n13=>
 Ce n13 fun m14=>
 Ij l_0 c_0 m14 fun m15=>
 c (.func 43) [(.int .u8 (Int.ofNat m15))] h8 fun v16 h17=>
 ext 0 v16 fun v18=>
 asI .u8 v18 fun n19=>
 ext 1 v16 fun v20=>
 asB v20 fun b21=>
 cnd b21
 (fI (wrap .i64 (Bq n_4 (Int.ofNat 3))) fun n22=>
 oK (Ax env (env.ty 70) [(0,(.int .u8 n19)),(1,(.int .i64 n_4)),(2,(.int .i64 n22))] h17) fun v23 h24=>
 oK (Ap env 65 (fun e ei=>Ak 1 [(0,v23)] h24 e ei)) fun v25 h26=>
 oK (Ar env .append [65,65] [v_3,v25] h26) fun v27 h28=>
 fI (wrap .i64 (Bq n_4 (Int.ofNat 3))) fun n29=>
 J.a1 l_0 c_0 v27 n29 h28)
 (J.a2 l_0 c_0 v_3 n_4 h17))
 (J.a2 l_0 c_0 v_3 n_4 h8))
 (k v_3 h)
def Aot(_c:CF)(_k:KV)(J:J20)(l_0 c_0:Nat)(v_3:AV)(n_4:Int)(h:H):Prop:=
 Ce n_4 fun m30=>
 Ij l_0 c_0 m30 fun m31=>
 fI (wrap .i64 (Bq n_4 (Int.ofNat 1))) fun n32=>
 oK (Ax env (env.ty 70) [(0,(.int .u8 (Int.ofNat m31))),(1,(.int .i64 n_4)),(2,(.int .i64 n32))] h) fun v33 h34=>
 oK (Ap env 65 (fun e ei=>Ak 1 [(0,v33)] h34 e ei)) fun v35 h36=>
 oK (Ar env .append [65,65] [v_3,v35] h36) fun v37 h38=>
 fI (wrap .i64 (Bq n_4 (Int.ofNat 1))) fun n39=>
 J.a1 l_0 c_0 v37 n39 h38
def z20:J20:=⟨fun _ _ _=>False,fun _ _ _ _ _=>False,fun _ _ _ _ _=>False⟩
def r20(c:CF)(k:KV)(m:Nat):J20:=Nat.rec z20 (fun _ J=>⟨Aov c k J,Aou c k J,Aot c k J⟩) m
def f20(J:J20):Jump:=fun L f h=>match L with
 |0=>asS (f 0) fun l_0 c_0=>J.a0 l_0 c_0 h
 |1=>asS (f 0) fun l_0 c_0=>asI .i64 (f 4) fun n_4=>J.a1 l_0 c_0 (f 3) n_4 h
 |2=>asS (f 0) fun l_0 c_0=>asI .i64 (f 4) fun n_4=>J.a2 l_0 c_0 (f 3) n_4 h
 |_=>False
def u20:Bb:=[(.root,0),((.l (.r (.l (.r (.r .root))))),1),((.r (.l (.r (.l (.l (.r (.l (.r (.r .root))))))))),2)]
def d21:Code:=Option.rec .skip (fun c=>c) Tryz.f21.body
def q21:Aq:=[(2,[0,1,2,3,4,5,6,7,8,9,10,11,12,13,14,15,16,17,18,19,20]),(4,[0,2,3,4,5,1,6,7,8])]
def u21:Bb:=[(.root,0)]
def d22:Code:=Option.rec .skip (fun c=>c) Tryz.f22.body
def q22:Aq:=[]
structure J22 where
 a0:AV→H→Prop
def Aos(_c:CF)(k:KV)(_J:J22)(v_0:AV)(h:H):Prop:=
 asG v_0 fun g1=>
 chk (Nat.ble 1 (len g1))<|
 Hp.Cs h (rowOf 44 g1) fun p2 h3=>
 Hp.Cs h3 Aak fun p4 h5=>
 Ac 7 (.ptr p2 0) fun v6=>
 ld1 v6 h5 fun v7=>
 Cz v7 fun m8=>
 cnd (Ca (Int.ofNat 0) (Int.ofNat m8))
 (Ac 7 (.ptr p2 0) fun v9=>
 ld1 v9 h5 fun v10=>
 fI (wrap .i64 (Mg (Int.ofNat m8) (Int.ofNat 1))) fun n11=>
 Ce n11 fun m12=>
 Cc 5 m12 v10 fun v13=>
 Ac 1 v13 fun v14=>
 ldn 3 v14 h5 fun v15=>
 stn 3 (.ptr p4 0) v15 h5 fun h16=>
 ldn 3 (.ptr p4 0) h16 fun v17=>
 k v17 h16)
 (Ac 3 (.ptr p2 0) fun v18=>
 ldn 3 v18 h5 fun v19=>
 stn 3 (.ptr p4 0) v19 h5 fun h20=>
 ldn 3 (.ptr p4 0) h20 fun v21=>
 k v21 h20)
def z22:J22:=⟨fun _ _=>False⟩
def r22(c:CF)(k:KV)(m:Nat):J22:=Nat.rec z22 (fun _ J=>⟨Aos c k J⟩) m
def f22(J:J22):Jump:=fun L f h=>match L with
 |0=>J.a0 (f 0) h
 |_=>False
def u22:Bb:=[(.root,0)]
def d24:Code:=Option.rec .skip (fun c=>c) Tryz.f24.body
def q24:Aq:=[(4294967294,[2]),(4294967295,[13])]
def Ct:LpS:=A7w q24 (Pk d24 (.l (.r (.l (.r (.r .root))))))
structure J24 where
 a0:Nat→Nat→H→Prop
def Aor(c:CF)(k:KV)(_J:J24)(l_0 c_0:Nat)(h:H):Prop:=
 Hp.Cs h ob4 fun p1 h2=>
 cnd (Ca (Int.ofNat 80) (Int.ofNat l_0))
 (st1 (.ptr p1 0) (.bool false) h2 fun h3=>
 ld1 (.ptr p1 0) h3 fun v4=>
 k v4 h3)
 (c (.func 47) [(.str l_0 c_0),(.str 1 47)] h2 fun v5 h6=>
 Qq env c Ct v5 (Ao (fun _=>.top) 2 (.ptr p1 0)) h6 fun x7 h8=>
 cnd (Xh x7 .normal)
 (st1 (.ptr p1 0) (.bool true) h8 fun h10=>
 ld1 (.ptr p1 0) h10 fun v11=>
 k v11 h10)
 (cnd (Xh x7 .ret)
 (ld1 (.ptr p1 0) h8 fun v9=>
 k v9 h8)
 (False)))
def z24:J24:=⟨fun _ _ _=>False⟩
def r24(c:CF)(k:KV)(m:Nat):J24:=Nat.rec z24 (fun _ J=>⟨Aor c k J⟩) m
def f24(J:J24):Jump:=fun L f h=>match L with
 |0=>asS (f 0) fun l_0 c_0=>J.a0 l_0 c_0 h
 |_=>False
def u24:Bb:=[(.root,0)]
def d25:Code:=Option.rec .skip (fun c=>c) Tryz.f25.body
def q25:Aq:=[]
structure J25 where
 a0:AV→AV→H→Prop
def Aoq(c:CF)(k:KV)(_J:J25)(v_0 v_1:AV)(h:H):Prop:=
 c (.func 49) [v_0,v_1] h fun v1 h2=>
 asI .i64 v1 fun n3=>
 k (.bool (Ef (Int.ofNat 0) n3)) h2
def z25:J25:=⟨fun _ _ _=>False⟩
def r25(c:CF)(k:KV)(m:Nat):J25:=Nat.rec z25 (fun _ J=>⟨Aoq c k J⟩) m
def f25(J:J25):Jump:=fun L f h=>match L with
 |0=>J.a0 (f 0) (f 1) h
 |_=>False
def u25:Bb:=[(.root,0)]
def d26:Code:=Option.rec .skip (fun c=>c) Tryz.f26.body
def q26:Aq:=[]
structure J26 where
 a0:AV→H→Prop
def Aop(_c:CF)(k:KV)(_J:J26)(v_0:AV)(h:H):Prop:=
 oV (Hh env .eql 32 v_0 .Ai) fun v1=>
 asB v1 fun b2=>
 cnd b2
 (k .Ai h)
 (oK (Ap env 32 (fun e ei=>Ak 0 [] h e ei)) fun v3 h4=>
 oK (Ar env .append [32,32] [v3,v_0] h4) fun v5 h6=>
 k v5 h6)
def z26:J26:=⟨fun _ _=>False⟩
def r26(c:CF)(k:KV)(m:Nat):J26:=Nat.rec z26 (fun _ J=>⟨Aop c k J⟩) m
def f26(J:J26):Jump:=fun L f h=>match L with
 |0=>J.a0 (f 0) h
 |_=>False
def u26:Bb:=[(.root,0)]
def d27:Code:=Option.rec .skip (fun c=>c) Tryz.f27.body
def q27:Aq:=[]
structure J27 where
 a0:Nat→Nat→H→Prop
def Aoo(c:CF)(k:KV)(_J:J27)(l_0 c_0:Nat)(h:H):Prop:=
 cnd (Ca (Int.ofNat 65536) (Int.ofNat l_0))
 (k (.tuple [.Cm,(.int .i64 (Int.ofNat 4))]) h)
 (c (.func 51) [(.str l_0 c_0)] h fun v1 h2=>
 c (.func 50) [v1] h2 fun v3 h4=>
 k (.tuple [v3,(.int .i64 (Int.ofNat 0))]) h4)
def z27:J27:=⟨fun _ _ _=>False⟩
def r27(c:CF)(k:KV)(m:Nat):J27:=Nat.rec z27 (fun _ J=>⟨Aoo c k J⟩) m
def f27(J:J27):Jump:=fun L f h=>match L with
 |0=>asS (f 0) fun l_0 c_0=>J.a0 l_0 c_0 h
 |_=>False
def u27:Bb:=[(.root,0)]
def d28:Code:=Option.rec .skip (fun c=>c) Tryz.f28.body
def q28:Aq:=[]
structure J28 where
 a0:AV→Nat→Nat→AV→Int→H→Prop
def Aon(c:CF)(k:KV)(_J:J28)(v_0:AV)(l_1 c_1:Nat)(v_2:AV)(n_3:Int)(h:H):Prop:=
 cnd (Bx n_3 (Int.ofNat 0))
 (oK (Ag v_0 h) fun v1 h2=>
 Ac 1 v1 fun v3=>
 ld1 v3 h2 fun v4=>
 oK (Dj env 76 v4 (.str l_1 c_1) v_2 h2) fun _ h6=>
 c (.func 52) [v_0,(.str l_1 c_1)] h6 fun _ h8=>
 k (.int .i64 n_3) h8)
 (k (.int .i64 n_3) h)
def z28:J28:=⟨fun _ _ _ _ _ _=>False⟩
def r28(c:CF)(k:KV)(m:Nat):J28:=Nat.rec z28 (fun _ J=>⟨Aon c k J⟩) m
def f28(J:J28):Jump:=fun L f h=>match L with
 |0=>asS (f 1) fun l_1 c_1=>asI .i64 (f 3) fun n_3=>J.a0 (f 0) l_1 c_1 (f 2) n_3 h
 |_=>False
def u28:Bb:=[(.root,0)]
def d29:Code:=Option.rec .skip (fun c=>c) Tryz.f29.body
def q29:Aq:=[(4,[0,1,2,3,4,5,6,7,8,9,10,11,12,13,14,15,16,17,18,19,20,21])]
structure J29 where
 a0:AV→Nat→Nat→H→Prop
 a1:AV→Nat→Nat→Int→H→Prop
def Aom(_c:CF)(_k:KV)(J:J29)(v_0:AV)(l_1 c_1:Nat)(h:H):Prop:=
 J.a1 v_0 l_1 c_1 (Int.ofNat 0) h
def Aol(_c:CF)(k:KV)(J:J29)(v_0:AV)(l_1 c_1:Nat)(n_6:Int)(h:H):Prop:=
 oK (Ag v_0 h) fun v1 h2=>
 Ac 1 v1 fun v3=>
 ld1 v3 h2 fun v4=>
 Cz v4 fun m5=>
 Ay (fun k6=>gate true (Ca n_6 (Int.ofNat m5))
 (oK (Ag v_0 h2) fun v9 h10=>
 Ac 1 v9 fun v11=>
 ld1 v11 h10 fun v12=>
 Ce n_6 fun m13=>
 Cc 2 m13 v12 fun v14=>
 Ac 0 v14 fun v15=>
 ld1 v15 h10 fun v16=>
 asS v16 fun l17 c18=>
 k6 (ltS l17 c18 l_1 c_1) h10)
 (k6 false h2)) fun b8 h7=>
 cnd b8
 (fI (wrap .i64 (Bq n_6 (Int.ofNat 1))) fun n19=>
 J.a1 v_0 l_1 c_1 n19 h7)
 (oK (Ag v_0 h7) fun v20 h21=>
 Ac 1 v20 fun v22=>
 ld1 v22 h21 fun v23=>
 Cz v23 fun m24=>
 Ay (fun k25=>gate true (Ca n_6 (Int.ofNat m24))
 (oK (Ag v_0 h21) fun v28 h29=>
 Ac 1 v28 fun v30=>
 ld1 v30 h29 fun v31=>
 Ce n_6 fun m32=>
 Cc 2 m32 v31 fun v33=>
 Ac 0 v33 fun v34=>
 ld1 v34 h29 fun v35=>
 asS v35 fun l36 c37=>
 k25 (Dv l36 c37 l_1 c_1) h29)
 (k25 false h21)) fun b27 h26=>
 k (.tuple [(.int .i64 n_6),(.bool b27)]) h26)
def z29:J29:=⟨fun _ _ _ _=>False,fun _ _ _ _ _=>False⟩
def r29(c:CF)(k:KV)(m:Nat):J29:=Nat.rec z29 (fun _ J=>⟨Aom c k J,Aol c k J⟩) m
def f29(J:J29):Jump:=fun L f h=>match L with
 |0=>asS (f 1) fun l_1 c_1=>J.a0 (f 0) l_1 c_1 h
 |1=>asS (f 1) fun l_1 c_1=>asI .i64 (f 6) fun n_6=>J.a1 (f 0) l_1 c_1 n_6 h
 |_=>False
def u29:Bb:=[(.root,0),((.l (.l (.r (.r .root)))),1)]
def d30:Code:=Option.rec .skip (fun c=>c) Tryz.f30.body
def q30:Aq:=[]
structure J30 where
 a0:Nat→Nat→H→Prop
 a1:AV→Int→H→Prop
def Aok(c:CF)(k:KV)(J:J30)(l_0 c_0:Nat)(h:H):Prop:=
 cnd (Ca (Int.ofNat 80) (Int.ofNat l_0))
 (k (.bool false) h)
 (c (.func 53) [(.str l_0 c_0)] h fun v1 h2=>
 J.a1 v1 (Int.ofNat 0) h2)
def Aoj(c:CF)(k:KV)(J:J30)(v_3:AV)(n_4:Int)(h:H):Prop:=
 Cz v_3 fun m3=>
 cnd (Ca n_4 (Int.ofNat m3))
 (Ce n_4 fun m4=>
 Cc 1 m4 v_3 fun v5=>
 ld1 v5 h fun v6=>
 asS v6 fun l7 c8=>
 c (.func 54) [(.str l7 c8)] h fun v9 h10=>
 asB v9 fun b11=>
 cnd (Ci b11)
 (k (.bool false) h10)
 (fI (wrap .i64 (Bq n_4 (Int.ofNat 1))) fun n12=>
 J.a1 v_3 n12 h10))
 (k (.bool true) h)
def z30:J30:=⟨fun _ _ _=>False,fun _ _ _=>False⟩
def r30(c:CF)(k:KV)(m:Nat):J30:=Nat.rec z30 (fun _ J=>⟨Aok c k J,Aoj c k J⟩) m
def f30(J:J30):Jump:=fun L f h=>match L with
 |0=>asS (f 0) fun l_0 c_0=>J.a0 l_0 c_0 h
 |1=>asI .i64 (f 4) fun n_4=>J.a1 (f 3) n_4 h
 |_=>False
def u30:Bb:=[(.root,0),((.l (.r (.l (.r (.r (.r .root)))))),1)]
def d31:Code:=Option.rec .skip (fun c=>c) Tryz.f31.body
def q31:Aq:=[]
structure J31 where
 a0:AV→Nat→Nat→Nat→Nat→H→Prop
 a1:AV→Nat→Nat→Nat→Nat→Int→AV→H→Prop
def Aoi(c:CF)(_k:KV)(J:J31)(v_0:AV)(l_1 c_1:Nat)(l_2 c_2:Nat)(h:H):Prop:=
 c (.func 29) [v_0,(.str l_1 c_1)] h fun v1 h2=>
 ext 0 v1 fun v3=>
 asI .i64 v3 fun n4=>
 ext 1 v1 fun v5=>
 asB v5 fun b6=>
 oK (Ag v_0 h2) fun v7 h8=>
 Ac 1 v7 fun v9=>
 ld1 v9 h8 fun v10=>
 oK (slice3 env h8 55 v10 (some (Bp (.int .i64 n4))) none none) fun v11 h12=>
 cnd b6
 (oK (Ag v_0 h12) fun v13 h14=>
 Ac 1 v13 fun v15=>
 ld1 v15 h14 fun v16=>
 fI (wrap .i64 (Bq n4 (Int.ofNat 1))) fun n17=>
 oK (slice3 env h14 55 v16 (some (Bp (.int .i64 n17))) none none) fun v18 h19=>
 J.a1 v_0 l_1 c_1 l_2 c_2 n4 v18 h19)
 (J.a1 v_0 l_1 c_1 l_2 c_2 n4 v11 h12)
def Aoh(c:CF)(k:KV)(_J:J31)(v_0:AV)(l_1 c_1:Nat)(l_2 c_2:Nat)(n_6:Int)(v_8:AV)(h:H):Prop:=
 oK (Ap env 55 (fun e ei=>Ak 0 [] h e ei)) fun v20 h21=>
 oK (Ag v_0 h21) fun v22 h23=>
 Ac 1 v22 fun v24=>
 ld1 v24 h23 fun v25=>
 oK (slice3 env h23 55 v25 none (some (Bp (.int .i64 n_6))) none) fun v26 h27=>
 oK (Ar env .append [55,55] [v20,v26] h27) fun v28 h29=>
 oK (Ax env (env.ty 134) [(0,(.str l_1 c_1)),(1,(.str l_2 c_2))] h29) fun v30 h31=>
 oK (Ap env 55 (fun e ei=>Ak 1 [(0,v30)] h31 e ei)) fun v32 h33=>
 oK (Ar env .append [55,55] [v28,v32] h33) fun v34 h35=>
 oK (Ar env .append [55,55] [v34,v_8] h35) fun v36 h37=>
 oK (Ag v_0 h37) fun v38 h39=>
 Ac 1 v38 fun v40=>
 st1 v40 v36 h39 fun h41=>
 c (.func 55) [v_0,(.str l_1 c_1)] h41 fun _ h43=>
 k (.tuple []) h43
def z31:J31:=⟨fun _ _ _ _ _ _=>False,fun _ _ _ _ _ _ _ _=>False⟩
def r31(c:CF)(k:KV)(m:Nat):J31:=Nat.rec z31 (fun _ J=>⟨Aoi c k J,Aoh c k J⟩) m
def f31(J:J31):Jump:=fun L f h=>match L with
 |0=>asS (f 1) fun l_1 c_1=>asS (f 2) fun l_2 c_2=>J.a0 (f 0) l_1 c_1 l_2 c_2 h
 |1=>asS (f 1) fun l_1 c_1=>asS (f 2) fun l_2 c_2=>asI .i64 (f 6) fun n_6=>J.a1 (f 0) l_1 c_1 l_2 c_2 n_6 (f 8) h
 |_=>False
def u31:Bb:=[(.root,0),((.r (.r (.r .root))),1)]
def d32:Code:=Option.rec .skip (fun c=>c) Tryz.f32.body
def q32:Aq:=[]
structure J32 where
 a0:AV→Nat→Nat→H→Prop
def Aog(_c:CF)(k:KV)(_J:J32)(v_0:AV)(l_1 c_1:Nat)(h:H):Prop:=
 oV (Hh env .eql 23 v_0 .Cm) fun v1=>
 asB v1 fun b2=>
 cnd b2
 (k (.tuple [.Cm,(.bool false)]) h)
 (oK (Ag v_0 h) fun v3 h4=>
 Ac 1 v3 fun v5=>
 ld1 v5 h4 fun v6=>
 oK (Db env 76 v6 (.str l_1 c_1) true h4) fun v7 h8=>
 ext 0 v7 fun v9=>
 ext 1 v7 fun v10=>
 asB v10 fun b11=>
 k (.tuple [v9,(.bool b11)]) h8)
def z32:J32:=⟨fun _ _ _ _=>False⟩
def r32(c:CF)(k:KV)(m:Nat):J32:=Nat.rec z32 (fun _ J=>⟨Aog c k J⟩) m
def f32(J:J32):Jump:=fun L f h=>match L with
 |0=>asS (f 1) fun l_1 c_1=>J.a0 (f 0) l_1 c_1 h
 |_=>False
def u32:Bb:=[(.root,0)]
def d33:Code:=Option.rec .skip (fun c=>c) Tryz.f33.body
def q33:Aq:=[]
def u33:Bb:=[(.root,0)]
def d34:Code:=Option.rec .skip (fun c=>c) Tryz.f34.body
def q34:Aq:=[]
structure J34 where
 a0:H→Prop
def Aof(_c:CF)(k:KV)(_J:J34)(h:H):Prop:=
 Hp.Cs h (.map [] 0) fun p1 h2=>
 oK (Ax env (env.ty 138) [(0,(.map p1))] h2) fun v3 h4=>
 asG v3 fun g5=>
 chk (Nat.ble 1 (len g5))<|
 Hp.Cs h4 (rowOf 138 g5) fun p6 h7=>
 k (.ptr p6 0) h7
def z34:J34:=⟨fun _=>False⟩
def r34(c:CF)(k:KV)(m:Nat):J34:=Nat.rec z34 (fun _ J=>⟨Aof c k J⟩) m
def f34(J:J34):Jump:=fun L _ h=>match L with
 |0=>J.a0 h
 |_=>False
def u34:Bb:=[(.root,0)]
def d35:Code:=Option.rec .skip (fun c=>c) Tryz.f35.body
def q35:Aq:=[]
structure J35 where
 a0:Int→H→Prop
def Aoe(c:CF)(k:KV)(_J:J35)(n_0:Int)(h:H):Prop:=
 oK (Ax env (env.ty 145) [] h) fun v1 h2=>
 asG v1 fun g3=>
 chk (Nat.ble 1 (len g3))<|
 Hp.Cs h2 (rowOf 145 g3) fun p4 h5=>
 oK (Ag (.ptr p4 0) h5) fun v6 h7=>
 Ac 0 v6 fun v8=>
 oK (Ar env .max [3,3] [(.int .i64 n_0),(.int .i64 (Int.ofNat 0))] h7) fun v9 h10=>
 asI .i64 v9 fun n11=>
 c (.func 56) [v8,(.int .i64 n11)] h10 fun _ h13=>
 k (.ptr p4 0) h13
def z35:J35:=⟨fun _ _=>False⟩
def r35(c:CF)(k:KV)(m:Nat):J35:=Nat.rec z35 (fun _ J=>⟨Aoe c k J⟩) m
def f35(J:J35):Jump:=fun L f h=>match L with
 |0=>asI .i64 (f 0) fun n_0=>J.a0 n_0 h
 |_=>False
def u35:Bb:=[(.root,0)]
def d36:Code:=Option.rec .skip (fun c=>c) Tryz.f36.body
def q36:Aq:=[(1,[0,1,2,3,4,5,6,9,7,8,10]),(5,[0,1,2,3,4,5,6,7,8,9,10,11,12])]
structure J36 where
 a0:AV→Nat→Nat→H→Prop
 a1:AV→AV→Int→Int→H→Prop
 a2:AV→AV→H→Prop
def Aod(c:CF)(_k:KV)(J:J36)(v_0:AV)(l_1 c_1:Nat)(h:H):Prop:=
 oK (Ag v_0 h) fun v1 h2=>
 Ac 0 v1 fun v3=>
 ld1 v3 h2 fun v4=>
 c (.func 32) [v4,(.str l_1 c_1)] h2 fun v5 h6=>
 ext 0 v5 fun v7=>
 ext 1 v5 fun v8=>
 asB v8 fun _=>
 oK (Ag v_0 h6) fun v10 h11=>
 Ac 4 v10 fun v12=>
 Ac 0 v12 fun v13=>
 ld1 v13 h11 fun v14=>
 Hp.Cs h11 A25 fun p15 h16=>
 ld1 v13 h16 fun v17=>
 eqC v17 v14<|
 c (.func 46) [v7] h16 fun v18 h19=>
 asS v18 fun l20 c21=>
 ld1 v13 h19 fun v22=>
 eqC v22 v14<|
 Mq (CP env) c v14 [(.str l_1 c_1),(.str l20 c21)] h19 fun v23 h24=>
 stn 3 (.ptr p15 0) v23 h24 fun h25=>
 Ac 2 (.ptr p15 0) fun v26=>
 ld1 v26 h25 fun v27=>
 oK (Ax env (env.ty 109) [(0,(.str l_1 c_1)),(1,v27)] h25) fun v28 h29=>
 oK (Ax env (env.ty 152) [(0,v_0),(1,(.str l_1 c_1)),(2,v28)] h29) fun v30 h31=>
 asG v30 fun g32=>
 chk (Nat.ble 1 (len g32))<|
 Hp.Cs h31 (rowOf 152 g32) fun p33 h34=>
 oK (Ag v_0 h34) fun v35 h36=>
 Ac 13 v35 fun v37=>
 ld1 v37 h36 fun v38=>
 oK (Db env 95 v38 (.str l_1 c_1) false h36) fun v39 h40=>
 asI .i64 v39 fun n41=>
 fI (wrap .i64 (Bq n41 (Int.ofNat 1))) fun n42=>
 oK (Dj env 95 v38 (.str l_1 c_1) (.int .i64 n42) h40) fun _ h44=>
 oK (Ag v_0 h44) fun v45 h46=>
 Ac 15 v45 fun v47=>
 ld1 v47 h46 fun v48=>
 asI .i64 v48 fun n49=>
 fI (wrap .i64 (Bq n49 (Int.ofNat 1))) fun n50=>
 oK (Ag v_0 h46) fun v51 h52=>
 Ac 15 v51 fun v53=>
 st1 v53 (.int .i64 n50) h52 fun h54=>
 oK (Ag v_0 h54) fun v55 h56=>
 Ac 8 v55 fun v57=>
 Ac 1 v57 fun v58=>
 ld1 v58 h56 fun v59=>
 Ac 1 (.ptr p15 0) fun v60=>
 ld1 v60 h56 fun v61=>
 oK (Ar env .append [31,31] [v59,v61] h56) fun v62 h63=>
 oK (Ag v_0 h63) fun v64 h65=>
 Ac 8 v64 fun v66=>
 Ac 1 v66 fun v67=>
 st1 v67 v62 h65 fun h68=>
 Ac 0 (.ptr p15 0) fun v69=>
 ld1 v69 h68 fun v70=>
 c (.func 57) [(.ptr p33 0),v70] h68 fun _ h72=>
 J.a2 v_0 (.ptr p33 0) h72
def Aoc(c:CF)(k:KV)(J:J36)(v_0 v_69:AV)(n_70 n_71:Int)(h:H):Prop:=
 cnd (Ca n_71 n_70)
 (Ce n_71 fun m73=>
 Cc 1 m73 v_69 fun v74=>
 ld1 v74 h fun v75=>
 oK (Ag v75 h) fun v76 h77=>
 Ac 3 v76 fun v78=>
 ld1 v78 h77 fun v79=>
 asB v79 fun b80=>
 Ay (fun k81=>gate true (Ci b80)
 (oK (Ag v_0 h77) fun v84 h85=>
 Ac 8 v84 fun v86=>
 Ac 4 v86 fun v87=>
 ld1 v87 h85 fun v88=>
 asB v88 fun b89=>
 k81 (Ci b89) h85)
 (k81 false h77)) fun b83 h82=>
 cnd b83
 (oK (Ag v75 h82) fun v90 h91=>
 Ac 0 v90 fun v92=>
 ldn 3 v92 h91 fun v93=>
 c (.func 58) [v_0,(.int .i64 (Int.ofNat 13)),v93] h91 fun _ h95=>
 fI (wrap .i64 (Bq n_71 (Int.ofNat 1))) fun n96=>
 J.a1 v_0 v_69 n_70 n96 h95)
 (fI (wrap .i64 (Bq n_71 (Int.ofNat 1))) fun n97=>
 J.a1 v_0 v_69 n_70 n97 h82))
 (oK (Ag v_0 h) fun v98 h99=>
 Ac 15 v98 fun v100=>
 ld1 v100 h99 fun v101=>
 asI .i64 v101 fun n102=>
 fI (wrap .i64 (Mg n102 (Int.ofNat 1))) fun n103=>
 oK (Ag v_0 h99) fun v104 h105=>
 Ac 15 v104 fun v106=>
 st1 v106 (.int .i64 n103) h105 fun h107=>
 k (.tuple []) h107)
def Aob(_c:CF)(_k:KV)(J:J36)(v_0 v_7:AV)(h:H):Prop:=
 oK (Ag v_7 h) fun v108 h109=>
 Ac 5 v108 fun v110=>
 ld1 v110 h109 fun v111=>
 Cz v111 fun m112=>
 J.a1 v_0 v111 (Int.ofNat m112) (Int.ofNat 0) h109
def z36:J36:=⟨fun _ _ _ _=>False,fun _ _ _ _ _=>False,fun _ _ _=>False⟩
def r36(c:CF)(k:KV)(m:Nat):J36:=Nat.rec z36 (fun _ J=>⟨Aod c k J,Aoc c k J,Aob c k J⟩) m
def f36(J:J36):Jump:=fun L f h=>match L with
 |0=>asS (f 1) fun l_1 c_1=>J.a0 (f 0) l_1 c_1 h
 |1=>asI .i64 (f 70) fun n_70=>asI .i64 (f 71) fun n_71=>J.a1 (f 0) (f 69) n_70 n_71 h
 |2=>J.a2 (f 0) (f 7) h
 |_=>False
def u36:Bb:=[(.root,0),((.l (.r (.l (.r (.r (.r (.r (.r (.r (.r .root)))))))))),1),((.r (.r (.r (.r (.r (.r (.r .root))))))),2)]
def d38:Code:=Option.rec .skip (fun c=>c) Tryz.f38.body
def q38:Aq:=[]
structure J38 where
 a0:AV→H→Prop
def Aoa(_c:CF)(k:KV)(_J:J38)(v_0:AV)(h:H):Prop:=
 one v_0<|
 Hp.Cs h (rowOf 95 [v_0]) fun p1 h2=>
 k (.func (.func 61) [] [(.ptr p1 0)]) h2
def z38:J38:=⟨fun _ _=>False⟩
def r38(c:CF)(k:KV)(m:Nat):J38:=Nat.rec z38 (fun _ J=>⟨Aoa c k J⟩) m
def f38(J:J38):Jump:=fun L f h=>match L with
 |0=>J.a0 (f 0) h
 |_=>False
def u38:Bb:=[(.root,0)]
def d39:Code:=Option.rec .skip (fun c=>c) Tryz.f39.body
def q39:Aq:=[(3,[0,1,2,3,4,5,6,7,8,9]),(6,[0,1,2,3,4,5,6,7,8,9]),(7,[0,1,2,3,4,5,6,7,8,9,10,11,12]),(13,[0,1,2,3,4,5,6])]
structure J39 where
 a0:Nat→Nat→Nat→Nat→H→Prop
 a1:Nat→Nat→AV→AV→Int→H→Prop
 a2:Nat→Nat→AV→AV→AV→H→Prop
 a3:AV→AV→H→Prop
def An9(c:CF)(_k:KV)(J:J39)(l_0 c_0:Nat)(l_1 c_1:Nat)(h:H):Prop:=
 c (.func 62) [(.str l_1 c_1)] h fun v1 h2=>
 oK (Ax env (env.ty 163) [(0,(.str l_0 c_0)),(1,v1),(5,(.int .i64 (Int.negSucc 0)))] h2) fun v3 h4=>
 asG v3 fun g5=>
 chk (Nat.ble 1 (len g5))<|
 Hp.Cs h4 (rowOf 163 g5) fun p6 h7=>
 J.a1 l_1 c_1 .Ai (.ptr p6 0) (Int.ofNat 0) h7
def An8(c:CF)(_k:KV)(J:J39)(l_1 c_1:Nat)(v_4 v_6:AV)(n_7:Int)(h:H):Prop:=
 oK (Ag v_6 h) fun v8 h9=>
 Ac 2 v8 fun v10=>
 ld1 v10 h9 fun v11=>
 asI .i64 v11 fun n12=>
 oK (Ag v_6 h9) fun v13 h14=>
 Ac 1 v13 fun v15=>
 ld1 v15 h14 fun v16=>
 Cz v16 fun m17=>
 cnd (Ca n12 (Int.ofNat m17))
 (c (.func 63) [v_6] h14 fun v18 h19=>
 Hp.Cs h19 Aal fun p20 h21=>
 stn 4 (.ptr p20 0) v18 h21 fun h22=>
 Ac 1 (.ptr p20 0) fun v23=>
 st1 v23 (.int .i64 n_7) h22 fun h24=>
 Ac 2 (.ptr p20 0) fun v25=>
 st1 v25 (.int .i64 (Int.ofNat l_1)) h24 fun h26=>
 oK (Ag v_6 h26) fun v27 h28=>
 Ac 2 v27 fun v29=>
 ld1 v29 h28 fun v30=>
 asI .i64 v30 fun n31=>
 oK (Ag v_6 h28) fun v32 h33=>
 Ac 1 v32 fun v34=>
 ld1 v34 h33 fun v35=>
 Cz v35 fun m36=>
 cnd (Ca n31 (Int.ofNat m36))
 (oK (Ag v_6 h33) fun v37 h38=>
 Ac 1 v37 fun v39=>
 ld1 v39 h38 fun v40=>
 oK (Ag v_6 h38) fun v41 h42=>
 Ac 2 v41 fun v43=>
 ld1 v43 h42 fun v44=>
 asI .i64 v44 fun n45=>
 Ce n45 fun m46=>
 Cc 3 m46 v40 fun v47=>
 Ac 2 v47 fun v48=>
 ld1 v48 h42 fun v49=>
 asI .i64 v49 fun n50=>
 Ac 2 (.ptr p20 0) fun v51=>
 st1 v51 (.int .i64 n50) h42 fun h52=>
 J.a2 l_1 c_1 v_4 v_6 (.ptr p20 0) h52)
 (J.a2 l_1 c_1 v_4 v_6 (.ptr p20 0) h33))
 (Cz v_4 fun m53=>
 cnd (Ca (Int.ofNat 0) (Int.ofNat m53))
 (Cz v_4 fun m54=>
 fI (wrap .i64 (Mg (Int.ofNat m54) (Int.ofNat 1))) fun n55=>
 Ce n55 fun m56=>
 Cc 4 m56 v_4 fun v57=>
 Ac 2 v57 fun v58=>
 st1 v58 (.int .i64 (Int.ofNat l_1)) h14 fun h59=>
 J.a3 v_4 v_6 h59)
 (J.a3 v_4 v_6 h14))
def An7(_c:CF)(_k:KV)(J:J39)(l_1 c_1:Nat)(v_4 v_6 v_8:AV)(h:H):Prop:=
 oK (Ag v_6 h) fun v60 h61=>
 Ac 2 v60 fun v62=>
 ld1 v62 h61 fun v63=>
 asI .i64 v63 fun n64=>
 fI (wrap .i64 (Bq n64 (Int.ofNat 1))) fun n65=>
 oK (Ag v_6 h61) fun v66 h67=>
 Ac 2 v66 fun v68=>
 st1 v68 (.int .i64 n65) h67 fun h69=>
 Ac 2 v_8 fun v70=>
 ld1 v70 h69 fun v71=>
 asI .i64 v71 fun n72=>
 ldn 4 v_8 h69 fun v73=>
 oK (Ap env 103 (fun e ei=>Ak 1 [(0,v73)] h69 e ei)) fun v74 h75=>
 oK (Ar env .append [103,103] [v_4,v74] h75) fun v76 h77=>
 J.a1 l_1 c_1 v76 v_6 n72 h77
def An6(_c:CF)(k:KV)(_J:J39)(v_4 v_6:AV)(h:H):Prop:=
 oK (Ag v_6 h) fun v78 h79=>
 Ac 3 v78 fun v80=>
 ld1 v80 h79 fun v81=>
 k (.tuple [v_4,v81]) h79
def z39:J39:=⟨fun _ _ _ _ _=>False,fun _ _ _ _ _ _=>False,fun _ _ _ _ _ _=>False,fun _ _ _=>False⟩
def r39(c:CF)(k:KV)(m:Nat):J39:=Nat.rec z39 (fun _ J=>⟨An9 c k J,An8 c k J,An7 c k J,An6 c k J⟩) m
def f39(J:J39):Jump:=fun L f h=>match L with
 |0=>asS (f 0) fun l_0 c_0=>asS (f 1) fun l_1 c_1=>J.a0 l_0 c_0 l_1 c_1 h
 |1=>asS (f 1) fun l_1 c_1=>asI .i64 (f 7) fun n_7=>J.a1 l_1 c_1 (f 4) (f 6) n_7 h
 |2=>asS (f 1) fun l_1 c_1=>J.a2 l_1 c_1 (f 4) (f 6) (f 8) h
 |3=>J.a3 (f 4) (f 6) h
 |_=>False
def u39:Bb:=[(.root,0),((.l (.l (.r (.r (.r .root))))),1),((.r (.r (.l (.r (.l (.l (.l (.r (.r (.r .root)))))))))),2),((.r (.r (.r (.r (.r .root))))),3)]
def d40:Code:=Option.rec .skip (fun c=>c) Tryz.f40.body
def q40:Aq:=[]
structure J40 where
 a0:AV→H→Prop
def An5(_c:CF)(k:KV)(_J:J40)(v_0:AV)(h:H):Prop:=
 one v_0<|
 Hp.Cs h (rowOf 30 [v_0]) fun p1 h2=>
 k (.func (.func 64) [] [(.ptr p1 0)]) h2
def z40:J40:=⟨fun _ _=>False⟩
def r40(c:CF)(k:KV)(m:Nat):J40:=Nat.rec z40 (fun _ J=>⟨An5 c k J⟩) m
def f40(J:J40):Jump:=fun L f h=>match L with
 |0=>J.a0 (f 0) h
 |_=>False
def u40:Bb:=[(.root,0)]
def d41:Code:=Option.rec .skip (fun c=>c) Tryz.f41.body
def q41:Aq:=[]
def u41:Bb:=[(.root,0)]
def d42:Code:=Option.rec .skip (fun c=>c) Tryz.f42.body
def q42:Aq:=[(3,[0,1,2,3,4,5,6,7,8,9,10,11,12,13,14])]
structure J42 where
 a0:AV→H→Prop
 a1:AV→H→Prop
def An4(_c:CF)(_k:KV)(J:J42)(v_0:AV)(h:H):Prop:=
 J.a1 v_0 h
def An3(c:CF)(k:KV)(J:J42)(v_0:AV)(h:H):Prop:=
 oK (Ag v_0 h) fun v1 h2=>
 Ac 2 v1 fun v3=>
 ld1 v3 h2 fun v4=>
 Cz v4 fun m5=>
 Ay (fun k6=>gate true (Ca (Int.ofNat 0) (Int.ofNat m5))
 (oK (Ag v_0 h2) fun v9 h10=>
 Ac 0 v9 fun v11=>
 ld1 v11 h10 fun v12=>
 oK (Ag v12 h10) fun v13 h14=>
 Ac 7 v13 fun v15=>
 ld1 v15 h14 fun v16=>
 asB v16 fun b17=>
 k6 (Ci b17) h14)
 (k6 false h2)) fun b8 h7=>
 cnd b8
 (c (.func 65) [v_0,(.int .i64 (Int.ofNat 0))] h7 fun v18 h19=>
 Hp.Cs h19 Aun fun p20 h21=>
 stn 9 (.ptr p20 0) v18 h21 fun h22=>
 oK (Ag v_0 h22) fun v23 h24=>
 Ac 2 v23 fun v25=>
 ld1 v25 h24 fun v26=>
 oK (Ag v_0 h24) fun v27 h28=>
 Ac 2 v27 fun v29=>
 ld1 v29 h28 fun v30=>
 Cz v30 fun m31=>
 fI (wrap .i64 (Mg (Int.ofNat m31) (Int.ofNat 1))) fun n32=>
 oK (slice3 env h28 116 v26 none (some (Bp (.int .i64 n32))) none) fun v33 h34=>
 oK (Ag v_0 h34) fun v35 h36=>
 Ac 2 v35 fun v37=>
 st1 v37 v33 h36 fun h38=>
 ldn 9 (.ptr p20 0) h38 fun v39=>
 c (.func 66) [v_0,v39] h38 fun _ h41=>
 J.a1 v_0 h41)
 (oK (Ag v_0 h7) fun v42 h43=>
 Ac 3 v42 fun v44=>
 ld1 v44 h43 fun v45=>
 k v45 h43)
def z42:J42:=⟨fun _ _=>False,fun _ _=>False⟩
def r42(c:CF)(k:KV)(m:Nat):J42:=Nat.rec z42 (fun _ J=>⟨An4 c k J,An3 c k J⟩) m
def f42(J:J42):Jump:=fun L f h=>match L with
 |0=>J.a0 (f 0) h
 |1=>J.a1 (f 0) h
 |_=>False
def u42:Bb:=[(.root,0),((.l (.l (.r .root))),1)]
def d43:Code:=Option.rec .skip (fun c=>c) Tryz.f43.body
def q43:Aq:=[]
structure J43 where
 a0:Int→H→Prop
 a1:Int→Int→H→Prop
def An2(_c:CF)(_k:KV)(J:J43)(n_0:Int)(h:H):Prop:=
 J.a1 n_0 (Int.ofNat 0) h
def An1(_c:CF)(k:KV)(J:J43)(n_0 n_4:Int)(h:H):Prop:=
 cnd (Ca n_4 (Int.ofNat 9))
 (Ce n_4 fun m1=>
 Ij 9 834587979106535026493 m1 fun m2=>
 cnd (Bx (Int.ofNat m2) n_0)
 (Ce n_4 fun m3=>
 Ij 9 2333331710704686619683 m3 fun m4=>
 k (.tuple [(.int .u8 (Int.ofNat m4)),(.bool true)]) h)
 (fI (wrap .i64 (Bq n_4 (Int.ofNat 1))) fun n5=>
 J.a1 n_0 n5 h))
 (k (.tuple [(.int .u8 (Int.ofNat 0)),(.bool false)]) h)
def z43:J43:=⟨fun _ _=>False,fun _ _ _=>False⟩
def r43(c:CF)(k:KV)(m:Nat):J43:=Nat.rec z43 (fun _ J=>⟨An2 c k J,An1 c k J⟩) m
def f43(J:J43):Jump:=fun L f h=>match L with
 |0=>asI .u8 (f 0) fun n_0=>J.a0 n_0 h
 |1=>asI .u8 (f 0) fun n_0=>asI .i64 (f 4) fun n_4=>J.a1 n_0 n_4 h
 |_=>False
def u43:Bb:=[(.root,0),((.l (.r (.l (.r .root)))),1)]
def d44:Code:=Option.rec .skip (fun c=>c) Tryz.f44.body
def q44:Aq:=[]
structure J44 where
 a0:AV→H→Prop
def An0(_c:CF)(k:KV)(_J:J44)(v_0:AV)(h:H):Prop:=
 oV (Hh env .eql 80 v_0 .Cm) fun v1=>
 asB v1 fun b2=>
 cnd b2
 (k (.int .i64 (Int.ofNat 0)) h)
 (oK (Ag v_0 h) fun v3 h4=>
 Ac 3 v3 fun v5=>
 ld1 v5 h4 fun v6=>
 asI .i64 v6 fun n7=>
 k (.int .i64 n7) h4)
def z44:J44:=⟨fun _ _=>False⟩
def r44(c:CF)(k:KV)(m:Nat):J44:=Nat.rec z44 (fun _ J=>⟨An0 c k J⟩) m
def f44(J:J44):Jump:=fun L f h=>match L with
 |0=>J.a0 (f 0) h
 |_=>False
def u44:Bb:=[(.root,0)]
def d45:Code:=Option.rec .skip (fun c=>c) Tryz.f45.body
def q45:Aq:=[]
def u45:Bb:=[(.root,0),((.l (.r (.l (.r (.r .root))))),1)]
def d46:Code:=Option.rec .skip (fun c=>c) Tryz.f46.body
def q46:Aq:=[]
structure J46 where
 a0:AV→H→Prop
def Anz(c:CF)(k:KV)(_J:J46)(v_0:AV)(h:H):Prop:=
 Hp.Cs h Xs fun p1 h2=>
 c (.func 70) [v_0,(.func (.func 71) [] [(.ptr p1 0)])] h2 fun _ h4=>
 c (.func 69) [(.ptr p1 0)] h4 fun v5 h6=>
 asS v5 fun l7 c8=>
 k (.str l7 c8) h6
def z46:J46:=⟨fun _ _=>False⟩
def r46(c:CF)(k:KV)(m:Nat):J46:=Nat.rec z46 (fun _ J=>⟨Anz c k J⟩) m
def f46(J:J46):Jump:=fun L f h=>match L with
 |0=>J.a0 (f 0) h
 |_=>False
def u46:Bb:=[(.root,0)]
def d47:Code:=Option.rec .skip (fun c=>c) Tryz.f47.body
def q47:Aq:=[]
structure J47 where
 a0:Nat→Nat→Nat→Nat→H→Prop
def Anx(c:CF)(k:KV)(_J:J47)(l_0 c_0:Nat)(l_1 c_1:Nat)(h:H):Prop:=
 c (.func 73) [(.str l_0 c_0),(.str l_1 c_1),(.int .i64 (Int.ofNat 0))] h fun v1 h2=>
 k v1 h2
def z47:J47:=⟨fun _ _ _ _ _=>False⟩
def r47(c:CF)(k:KV)(m:Nat):J47:=Nat.rec z47 (fun _ J=>⟨Anx c k J⟩) m
def f47(J:J47):Jump:=fun L f h=>match L with
 |0=>asS (f 0) fun l_0 c_0=>asS (f 1) fun l_1 c_1=>J.a0 l_0 c_0 l_1 c_1 h
 |_=>False
def u47:Bb:=[(.root,0)]
def d48:Code:=Option.rec .skip (fun c=>c) Tryz.f48.body
def q48:Aq:=[]
structure J48 where
 a0:Nat→Nat→H→Prop
 a1:Nat→Nat→Bool→Int→H→Prop
def Anw(_c:CF)(_k:KV)(J:J48)(l_0 c_0:Nat)(h:H):Prop:=
 Ay (fun k1=>gate true (Ci (Dv l_0 c_0 0 0))
 (k1 (Ef (Int.ofNat l_0) (Int.ofNat 20)) h)
 (k1 false h)) fun b3 h2=>
 Ay (fun k4=>gate true b3
 (k4 (Ci (Dv l_0 c_0 1 46)) h2)
 (k4 false h2)) fun b6 h5=>
 Ay (fun k7=>gate true b6
 (k7 (Ci (Dv l_0 c_0 2 11822)) h5)
 (k7 false h5)) fun b9 h8=>
 J.a1 l_0 c_0 b9 (Int.ofNat 0) h8
def Anv(c:CF)(k:KV)(J:J48)(l_0 c_0:Nat)(b_3:Bool)(n_4:Int)(h:H):Prop:=
 Ay (fun k10=>gate true (Ca n_4 (Int.ofNat l_0))
 (k10 b_3 h)
 (k10 false h)) fun b12 h11=>
 cnd b12
 (Ce n_4 fun m13=>
 Ij l_0 c_0 m13 fun m14=>
 c (.func 74) [(.int .u8 (Int.ofNat m14))] h11 fun v15 h16=>
 asB v15 fun b17=>
 fI (wrap .i64 (Bq n_4 (Int.ofNat 1))) fun n18=>
 J.a1 l_0 c_0 b17 n18 h16)
 (k (.bool b_3) h11)
def z48:J48:=⟨fun _ _ _=>False,fun _ _ _ _ _=>False⟩
def r48(c:CF)(k:KV)(m:Nat):J48:=Nat.rec z48 (fun _ J=>⟨Anw c k J,Anv c k J⟩) m
def f48(J:J48):Jump:=fun L f h=>match L with
 |0=>asS (f 0) fun l_0 c_0=>J.a0 l_0 c_0 h
 |1=>asS (f 0) fun l_0 c_0=>asB (f 3) fun b_3=>asI .i64 (f 4) fun n_4=>J.a1 l_0 c_0 b_3 n_4 h
 |_=>False
def u48:Bb:=[(.root,0),((.l (.r (.l (.r (.r .root))))),1)]
def d49:Code:=Option.rec .skip (fun c=>c) Tryz.f49.body
def q49:Aq:=[]
structure J49 where
 a0:AV→AV→H→Prop
 a1:AV→AV→Int→Int→H→Prop
def Anu(_c:CF)(_k:KV)(J:J49)(v_0 v_1:AV)(h:H):Prop:=
 Cz v_0 fun m1=>
 J.a1 v_0 v_1 (Int.ofNat m1) (Int.ofNat 0) h
def Ant(c:CF)(k:KV)(J:J49)(v_0 v_1:AV)(n_7 n_8:Int)(h:H):Prop:=
 cnd (Ca n_8 n_7)
 (Ce n_8 fun m2=>
 Cc 1 m2 v_0 fun v3=>
 ld1 v3 h fun v4=>
 asS v4 fun l5 c6=>
 Mq (CP env) c v_1 [(.str l5 c6)] h fun v7 h8=>
 asB v7 fun b9=>
 cnd b9
 (k (.int .i64 n_8) h8)
 (fI (wrap .i64 (Bq n_8 (Int.ofNat 1))) fun n10=>
 J.a1 v_0 v_1 n_7 n10 h8))
 (k (.int .i64 (Int.negSucc 0)) h)
def z49:J49:=⟨fun _ _ _=>False,fun _ _ _ _ _=>False⟩
def r49(c:CF)(k:KV)(m:Nat):J49:=Nat.rec z49 (fun _ J=>⟨Anu c k J,Ant c k J⟩) m
def f49(J:J49):Jump:=fun L f h=>match L with
 |0=>J.a0 (f 0) (f 1) h
 |1=>asI .i64 (f 7) fun n_7=>asI .i64 (f 8) fun n_8=>J.a1 (f 0) (f 1) n_7 n_8 h
 |_=>False
def u49:Bb:=[(.root,0),((.l (.r (.l (.r .root)))),1)]
def d50:Code:=Option.rec .skip (fun c=>c) Tryz.f50.body
def q50:Aq:=[]
structure J50 where
 a0:AV→H→Prop
def Ans(_c:CF)(k:KV)(_J:J50)(v_0:AV)(h:H):Prop:=
 oV (Hh env .eql 80 v_0 .Cm) fun v1=>
 asB v1 fun b2=>
 cnd b2
 (oK (Ax env (env.ty 180) [] h) fun v3 h4=>
 asG v3 fun g5=>
 chk (Nat.ble 1 (len g5))<|
 Hp.Cs h4 (rowOf 180 g5) fun p6 h7=>
 k (.ptr p6 0) h7)
 (k v_0 h)
def z50:J50:=⟨fun _ _=>False⟩
def r50(c:CF)(k:KV)(m:Nat):J50:=Nat.rec z50 (fun _ J=>⟨Ans c k J⟩) m
def f50(J:J50):Jump:=fun L f h=>match L with
 |0=>J.a0 (f 0) h
 |_=>False
def u50:Bb:=[(.root,0)]
def d51:Code:=Option.rec .skip (fun c=>c) Tryz.f51.body
def q51:Aq:=[(4,[0,1,2,4,5,6,3,7,8,9])]
structure J51 where
 a0:Nat→Nat→H→Prop
def Anr(c:CF)(k:KV)(_J:J51)(l_0 c_0:Nat)(h:H):Prop:=
 cnd (Ef (Int.ofNat l_0) (Int.ofNat 256))
 (c (.func 75) [(.str l_0 c_0)] h fun v1 h2=>
 k v1 h2)
 (Az6 .i64 (Int.ofNat l_0) (Int.ofNat 2) fun n3=>
 Ce n3 fun m4=>
 No l_0 c_0 0 m4 fun l5 c6=>
 Ce n3 fun m7=>
 No l_0 c_0 m7 l_0 fun l8 c9=>
 c (.func 51) [(.str l5 c6)] h fun v10 h11=>
 c (.func 51) [(.str l8 c9)] h11 fun v12 h13=>
 c (.func 76) [v10,v12] h13 fun v14 h15=>
 k v14 h15)
def z51:J51:=⟨fun _ _ _=>False⟩
def r51(c:CF)(k:KV)(m:Nat):J51:=Nat.rec z51 (fun _ J=>⟨Anr c k J⟩) m
def f51(J:J51):Jump:=fun L f h=>match L with
 |0=>asS (f 0) fun l_0 c_0=>J.a0 l_0 c_0 h
 |_=>False
def u51:Bb:=[(.root,0)]
def d52:Code:=Option.rec .skip (fun c=>c) Tryz.f52.body
def q52:Aq:=[]
structure J52 where
 a0:AV→Nat→Nat→H→Prop
 a1:AV→Nat→Nat→H→Prop
def Anq(_c:CF)(_k:KV)(J:J52)(v_0:AV)(l_1 c_1:Nat)(h:H):Prop:=
 oK (Ag v_0 h) fun v1 h2=>
 Ac 2 v1 fun v3=>
 ld1 v3 h2 fun v4=>
 oK (Db env 77 v4 (.str l_1 c_1) false h2) fun v5 h6=>
 oV (Hh env .eql 193 v5 .Cm) fun v7=>
 asB v7 fun b8=>
 cnd b8
 (oK (Ag v_0 h6) fun v9 h10=>
 Ac 2 v9 fun v11=>
 ld1 v11 h10 fun v12=>
 oK (Ax env (env.ty 143) [] h10) fun v13 h14=>
 asG v13 fun g15=>
 chk (Nat.ble 1 (len g15))<|
 Hp.Cs h14 (rowOf 143 g15) fun p16 h17=>
 oK (Dj env 77 v12 (.str l_1 c_1) (.ptr p16 0) h17) fun _ h19=>
 J.a1 v_0 l_1 c_1 h19)
 (J.a1 v_0 l_1 c_1 h6)
def Anp(c:CF)(k:KV)(_J:J52)(v_0:AV)(l_1 c_1:Nat)(h:H):Prop:=
 oK (Ag v_0 h) fun v20 h21=>
 Ac 2 v20 fun v22=>
 ld1 v22 h21 fun v23=>
 oK (Db env 77 v23 (.str l_1 c_1) false h21) fun v24 h25=>
 c (.func 77) [v24,(.int .i64 (Int.ofNat 1))] h25 fun v26 h27=>
 asI .i64 v26 fun _=>
 k (.tuple []) h27
def z52:J52:=⟨fun _ _ _ _=>False,fun _ _ _ _=>False⟩
def r52(c:CF)(k:KV)(m:Nat):J52:=Nat.rec z52 (fun _ J=>⟨Anq c k J,Anp c k J⟩) m
def f52(J:J52):Jump:=fun L f h=>match L with
 |0=>asS (f 1) fun l_1 c_1=>J.a0 (f 0) l_1 c_1 h
 |1=>asS (f 1) fun l_1 c_1=>J.a1 (f 0) l_1 c_1 h
 |_=>False
def u52:Bb:=[(.root,0),((.r .root),1)]
def d53:Code:=Option.rec .skip (fun c=>c) Tryz.f53.body
def q53:Aq:=[]
structure J53 where
 a0:Nat→Nat→H→Prop
 a1:Nat→Nat→AV→Int→Int→H→Prop
 a2:Nat→Nat→AV→Int→Int→H→Prop
def Ano(_c:CF)(_k:KV)(J:J53)(l_0 c_0:Nat)(h:H):Prop:=
 J.a1 l_0 c_0 .Ai (Int.ofNat 0) (Int.ofNat 0) h
def Aho(_c:CF)(k:KV)(J:J53)(l_0 c_0:Nat)(v_3:AV)(n_4 n_5:Int)(h:H):Prop:=
 cnd (Ef n_5 (Int.ofNat l_0))
 (Ay (fun k1=>gate false (Bx n_5 (Int.ofNat l_0))
 (Ce n_5 fun m4=>
 Ij l_0 c_0 m4 fun m5=>
 k1 (Bx (Int.ofNat m5) (Int.ofNat 47)) h)
 (k1 true h)) fun b3 h2=>
 cnd b3
 (Ce n_5 fun m6=>
 Ce n_4 fun m7=>
 No l_0 c_0 m7 m6 fun l8 c9=>
 oK (Ap env 32 (fun e ei=>Ak 1 [(0,(.str l8 c9))] h2 e ei)) fun v10 h11=>
 oK (Ar env .append [32,32] [v_3,v10] h11) fun v12 h13=>
 fI (wrap .i64 (Bq n_5 (Int.ofNat 1))) fun n14=>
 J.a2 l_0 c_0 v12 n14 n_5 h13)
 (J.a2 l_0 c_0 v_3 n_4 n_5 h2))
 (k v_3 h)
def Acv(_c:CF)(_k:KV)(J:J53)(l_0 c_0:Nat)(v_3:AV)(n_4 n_5:Int)(h:H):Prop:=
 fI (wrap .i64 (Bq n_5 (Int.ofNat 1))) fun n15=>
 J.a1 l_0 c_0 v_3 n_4 n15 h
def z53:J53:=⟨fun _ _ _=>False,fun _ _ _ _ _ _=>False,fun _ _ _ _ _ _=>False⟩
def r53(c:CF)(k:KV)(m:Nat):J53:=Nat.rec z53 (fun _ J=>⟨Ano c k J,Aho c k J,Acv c k J⟩) m
def f53(J:J53):Jump:=fun L f h=>match L with
 |0=>asS (f 0) fun l_0 c_0=>J.a0 l_0 c_0 h
 |1=>asS (f 0) fun l_0 c_0=>asI .i64 (f 4) fun n_4=>asI .i64 (f 5) fun n_5=>J.a1 l_0 c_0 (f 3) n_4 n_5 h
 |2=>asS (f 0) fun l_0 c_0=>asI .i64 (f 4) fun n_4=>asI .i64 (f 5) fun n_5=>J.a2 l_0 c_0 (f 3) n_4 n_5 h
 |_=>False
def u53:Bb:=[(.root,0),((.l (.r (.l (.r (.r (.r .root)))))),1),((.r (.r (.l (.l (.r (.l (.r (.r (.r .root))))))))),2)]
def d54:Code:=Option.rec .skip (fun c=>c) Tryz.f54.body
def q54:Aq:=[]
structure J54 where
 a0:Nat→Nat→H→Prop
 a1:Nat→Nat→Int→H→Prop
def Ann(_c:CF)(_k:KV)(J:J54)(l_0 c_0:Nat)(h:H):Prop:=
 J.a1 l_0 c_0 (Int.ofNat 0) h
def Anm(_c:CF)(k:KV)(J:J54)(l_0 c_0:Nat)(n_3:Int)(h:H):Prop:=
 cnd (Ca n_3 (Int.ofNat l_0))
 (Ce n_3 fun m1=>
 Ij l_0 c_0 m1 fun m2=>
 Ay (fun k3=>gate false (Ca (Int.ofNat m2) (Int.ofNat 97))
 (k3 (Ca (Int.ofNat 122) (Int.ofNat m2)) h)
 (k3 true h)) fun b5 h4=>
 Ay (fun k6=>gate true b5
 (Ay (fun k9=>gate false (Ca (Int.ofNat m2) (Int.ofNat 65))
 (k9 (Ca (Int.ofNat 90) (Int.ofNat m2)) h4)
 (k9 true h4)) fun b11 h10=>
 k6 b11 h10)
 (k6 false h4)) fun b8 h7=>
 Ay (fun k12=>gate true b8
 (Ay (fun k15=>gate false (Ca (Int.ofNat m2) (Int.ofNat 48))
 (k15 (Ca (Int.ofNat 57) (Int.ofNat m2)) h7)
 (k15 true h7)) fun b17 h16=>
 k12 b17 h16)
 (k12 false h7)) fun b14 h13=>
 Ay (fun k18=>gate true b14
 (k18 (Ci (Bx (Int.ofNat m2) (Int.ofNat 46))) h13)
 (k18 false h13)) fun b20 h19=>
 Ay (fun k21=>gate true b20
 (k21 (Ci (Bx (Int.ofNat m2) (Int.ofNat 45))) h19)
 (k21 false h19)) fun b23 h22=>
 Ay (fun k24=>gate true b23
 (k24 (Ci (Bx (Int.ofNat m2) (Int.ofNat 95))) h22)
 (k24 false h22)) fun b26 h25=>
 cnd b26
 (k (.bool false) h25)
 (fI (wrap .i64 (Bq n_3 (Int.ofNat 1))) fun n27=>
 J.a1 l_0 c_0 n27 h25))
 (Ay (fun k28=>gate true (Ef (Int.ofNat 1) (Int.ofNat l_0))
 (k28 (Ef (Int.ofNat l_0) (Int.ofNat 20)) h)
 (k28 false h)) fun b30 h29=>
 Ay (fun k31=>gate true b30
 (k31 (Ci (Dv l_0 c_0 1 46)) h29)
 (k31 false h29)) fun b33 h32=>
 Ay (fun k34=>gate true b33
 (k34 (Ci (Dv l_0 c_0 2 11822)) h32)
 (k34 false h32)) fun b36 h35=>
 k (.bool b36) h35)
def z54:J54:=⟨fun _ _ _=>False,fun _ _ _ _=>False⟩
def r54(c:CF)(k:KV)(m:Nat):J54:=Nat.rec z54 (fun _ J=>⟨Ann c k J,Anm c k J⟩) m
def f54(J:J54):Jump:=fun L f h=>match L with
 |0=>asS (f 0) fun l_0 c_0=>J.a0 l_0 c_0 h
 |1=>asS (f 0) fun l_0 c_0=>asI .i64 (f 3) fun n_3=>J.a1 l_0 c_0 n_3 h
 |_=>False
def u54:Bb:=[(.root,0),((.l (.r (.l (.r .root)))),1)]
def d55:Code:=Option.rec .skip (fun c=>c) Tryz.f55.body
def q55:Aq:=[]
structure J55 where
 a0:AV→Nat→Nat→H→Prop
 a1:AV→Nat→Nat→Int→H→Prop
def Anl(_c:CF)(_k:KV)(J:J55)(v_0:AV)(l_1 c_1:Nat)(h:H):Prop:=
 J.a1 v_0 l_1 c_1 (Int.ofNat 0) h
def Ank(_c:CF)(k:KV)(J:J55)(v_0:AV)(l_1 c_1:Nat)(n_4:Int)(h:H):Prop:=
 oK (Ag v_0 h) fun v1 h2=>
 Ac 2 v1 fun v3=>
 ld1 v3 h2 fun v4=>
 Cz v4 fun m5=>
 cnd (Ca n_4 (Int.ofNat m5))
 (oK (Ag v_0 h2) fun v6 h7=>
 Ac 2 v6 fun v8=>
 ld1 v8 h7 fun v9=>
 Ce n_4 fun m10=>
 Cc 1 m10 v9 fun v11=>
 ld1 v11 h7 fun v12=>
 asS v12 fun l13 c14=>
 cnd (Dv l13 c14 l_1 c_1)
 (oK (Ap env 38 (fun e ei=>Ak 0 [] h7 e ei)) fun v15 h16=>
 oK (Ag v_0 h16) fun v17 h18=>
 Ac 3 v17 fun v19=>
 ld1 v19 h18 fun v20=>
 oK (Ar env .append [38,38] [v15,v20] h18) fun v21 h22=>
 oK (Ag v_0 h22) fun v23 h24=>
 Ac 3 v23 fun v25=>
 st1 v25 v21 h24 fun h26=>
 oK (Ag v_0 h26) fun v27 h28=>
 Ac 3 v27 fun v29=>
 ld1 v29 h28 fun v30=>
 Ce n_4 fun m31=>
 Cc 1 m31 v30 fun v32=>
 ld1 v32 h28 fun v33=>
 asI .i64 v33 fun n34=>
 fI (wrap .i64 (Bq n34 (Int.ofNat 1))) fun n35=>
 Ce n_4 fun m36=>
 Cc 1 m36 v30 fun v37=>
 st1 v37 (.int .i64 n35) h28 fun h38=>
 k (.tuple []) h38)
 (fI (wrap .i64 (Bq n_4 (Int.ofNat 1))) fun n39=>
 J.a1 v_0 l_1 c_1 n39 h7))
 (oK (Ap env 32 (fun e ei=>Ak 0 [] h2 e ei)) fun v40 h41=>
 oK (Ag v_0 h41) fun v42 h43=>
 Ac 2 v42 fun v44=>
 ld1 v44 h43 fun v45=>
 oK (Ar env .append [32,32] [v40,v45] h43) fun v46 h47=>
 oK (Ap env 32 (fun e ei=>Ak 1 [(0,(.str l_1 c_1))] h47 e ei)) fun v48 h49=>
 oK (Ar env .append [32,32] [v46,v48] h49) fun v50 h51=>
 oK (Ag v_0 h51) fun v52 h53=>
 Ac 2 v52 fun v54=>
 st1 v54 v50 h53 fun h55=>
 oK (Ap env 38 (fun e ei=>Ak 0 [] h55 e ei)) fun v56 h57=>
 oK (Ag v_0 h57) fun v58 h59=>
 Ac 3 v58 fun v60=>
 ld1 v60 h59 fun v61=>
 oK (Ar env .append [38,38] [v56,v61] h59) fun v62 h63=>
 oK (Ap env 38 (fun e ei=>Ak 1 [(0,(.int .i64 (Int.ofNat 1)))] h63 e ei)) fun v64 h65=>
 oK (Ar env .append [38,38] [v62,v64] h65) fun v66 h67=>
 oK (Ag v_0 h67) fun v68 h69=>
 Ac 3 v68 fun v70=>
 st1 v70 v66 h69 fun h71=>
 k (.tuple []) h71)
def z55:J55:=⟨fun _ _ _ _=>False,fun _ _ _ _ _=>False⟩
def r55(c:CF)(k:KV)(m:Nat):J55:=Nat.rec z55 (fun _ J=>⟨Anl c k J,Ank c k J⟩) m
def f55(J:J55):Jump:=fun L f h=>match L with
 |0=>asS (f 1) fun l_1 c_1=>J.a0 (f 0) l_1 c_1 h
 |1=>asS (f 1) fun l_1 c_1=>asI .i64 (f 4) fun n_4=>J.a1 (f 0) l_1 c_1 n_4 h
 |_=>False
def u55:Bb:=[(.root,0),((.l (.r (.l .root))),1)]
def d56:Code:=Option.rec .skip (fun c=>c) Tryz.f56.body
def q56:Aq:=[]
structure J56 where
 a0:AV→Int→H→Prop
def Anj(c:CF)(k:KV)(_J:J56)(v_0:AV)(n_1:Int)(h:H):Prop:=
 oK (Ag v_0 h) fun v1 h2=>
 Ac 0 v1 fun v3=>
 c (.func 78) [v3,(.int .i64 n_1)] h2 fun _ h5=>
 k (.tuple []) h5
def z56:J56:=⟨fun _ _ _=>False⟩
def r56(c:CF)(k:KV)(m:Nat):J56:=Nat.rec z56 (fun _ J=>⟨Anj c k J⟩) m
def f56(J:J56):Jump:=fun L f h=>match L with
 |0=>asI .i64 (f 1) fun n_1=>J.a0 (f 0) n_1 h
 |_=>False
def u56:Bb:=[(.root,0)]
def d57:Code:=Option.rec .skip (fun c=>c) Tryz.f57.body
def q57:Aq:=[(16,[0,1,2,3,4,5,6,7,8,9,10,11,12,13,14,15,16,17,18,19,20,21,22,23,24,25,26,27,28,29,30,31,32,33,34,35,36,37,38,39,40,41,42,43,44,45,46,47,48,49])]
structure J57 where
 a0:AV→AV→H→Prop
 a1:AV→AV→AV→Int→H→Prop
 a2:AV→AV→AV→Int→AV→Int→H→Prop
 a3:AV→AV→AV→Int→AV→Int→H→Prop
def Ani(_c:CF)(_k:KV)(J:J57)(v_0 v_1:AV)(h:H):Prop:=
 oK (Ax env (env.ty 201) [] h) fun v1 h2=>
 asG v1 fun g3=>
 chk (Nat.ble 1 (len g3))<|
 Hp.Cs h2 (rowOf 201 g3) fun p4 h5=>
 J.a1 v_0 v_1 (.ptr p4 0) (Int.ofNat 0) h5
def Ahn(c:CF)(k:KV)(J:J57)(v_0 v_1 v_4:AV)(n_5:Int)(h:H):Prop:=
 Cz v_1 fun m6=>
 Ay (fun k7=>gate true (Ca n_5 (Int.ofNat m6))
 (oK (Ag v_0 h) fun v10 h11=>
 Ac 0 v10 fun v12=>
 ld1 v12 h11 fun v13=>
 oK (Ag v13 h11) fun v14 h15=>
 Ac 8 v14 fun v16=>
 Ac 4 v16 fun v17=>
 ld1 v17 h15 fun v18=>
 asB v18 fun b19=>
 k7 (Ci b19) h15)
 (k7 false h)) fun b9 h8=>
 cnd b9
 (Ce n_5 fun m20=>
 Cc 4 m20 v_1 fun v21=>
 Ac 0 v21 fun v22=>
 ld1 v22 h8 fun v23=>
 c (.func 79) [v_4,v23] h8 fun v24 h25=>
 asI .i64 v24 fun n26=>
 cnd (Ci (Bx n26 (Int.ofNat 0)))
 (Ce n_5 fun m27=>
 Cc 4 m27 v_1 fun v28=>
 ldn 4 v28 h25 fun v29=>
 c (.func 80) [v_0,(.int .i64 n26),v29] h25 fun _ h31=>
 fI (wrap .i64 (Bq n_5 (Int.ofNat 1))) fun n32=>
 J.a1 v_0 v_1 v_4 n32 h31)
 (J.a2 v_0 v_1 v_4 n_5 .Ai n_5 h25))
 (k (.tuple []) h8)
def Ahm(c:CF)(_k:KV)(J:J57)(v_0 v_1 v_4:AV)(n_5:Int)(v_7:AV)(n_8:Int)(h:H):Prop:=
 Cz v_1 fun m33=>
 Ay (fun k34=>gate true (Ca n_5 (Int.ofNat m33))
 (Ce n_5 fun m37=>
 Cc 4 m37 v_1 fun v38=>
 Ac 0 v38 fun v39=>
 ld1 v39 h fun v40=>
 c (.func 79) [v_4,v40] h fun v41 h42=>
 asI .i64 v41 fun n43=>
 k34 (Bx n43 (Int.ofNat 0)) h42)
 (k34 false h)) fun b36 h35=>
 cnd b36
 (Cz v_7 fun m44=>
 Ce n_5 fun m45=>
 Cc 4 m45 v_1 fun v46=>
 Ac 0 v46 fun v47=>
 ld1 v47 h35 fun v48=>
 oK (Ar env .append [30,30] [v_7,v48] h35) fun v49 h50=>
 Ay (fun k51=>gate true (Ca n_8 n_5)
 (Cz v49 fun m54=>
 k51 (Ca (Int.ofNat m44) (Int.ofNat m54)) h50)
 (k51 false h50)) fun b53 h52=>
 cnd b53
 (Cc 8 m44 v49 fun v55=>
 Ac 2 v55 fun v56=>
 st1 v56 (.bool true) h52 fun h57=>
 J.a3 v_0 v_1 v_4 n_5 v49 n_8 h57)
 (J.a3 v_0 v_1 v_4 n_5 v49 n_8 h52))
 (c (.func 81) [v_0] h35 fun v58 h59=>
 asB v58 fun b60=>
 Ay (fun k61=>gate true (Ci b60)
 (Cz v_7 fun m64=>
 k61 (Ca (Int.ofNat 0) (Int.ofNat m64)) h59)
 (k61 false h59)) fun b63 h62=>
 cnd b63
 (oK (Ag v_0 h62) fun v65 h66=>
 Ac 0 v65 fun v67=>
 ld1 v67 h66 fun v68=>
 oK (Ag v_0 h66) fun v69 h70=>
 Ac 0 v69 fun v71=>
 ld1 v71 h70 fun v72=>
 oK (Ag v72 h70) fun v73 h74=>
 Ac 8 v73 fun v75=>
 Ac 0 v75 fun v76=>
 ld1 v76 h74 fun v77=>
 oK (Ag v_0 h74) fun v78 h79=>
 Ac 0 v78 fun v80=>
 ld1 v80 h79 fun v81=>
 oK (Ag v_0 h79) fun v82 h83=>
 Ac 0 v82 fun v84=>
 ld1 v84 h83 fun v85=>
 oK (Ag v85 h83) fun v86 h87=>
 Ac 4 v86 fun v88=>
 Ac 1 v88 fun v89=>
 ld1 v89 h87 fun v90=>
 oK (Ag v_0 h87) fun v91 h92=>
 Ac 0 v91 fun v93=>
 ld1 v93 h92 fun v94=>
 oK (Ag v94 h92) fun v95 h96=>
 Ac 6 v95 fun v97=>
 ld1 v97 h96 fun v98=>
 oK (Ag v_0 h96) fun v99 h100=>
 Ac 2 v99 fun v101=>
 ldn 3 v101 h100 fun v102=>
 oK (Ag v_0 h100) fun v103 h104=>
 Ac 0 v103 fun v105=>
 ld1 v105 h104 fun v106=>
 oK (Ag v106 h104) fun v107 h108=>
 Ac 7 v107 fun v109=>
 ld1 v109 h108 fun v110=>
 Mq (CP env) c v90 [v98,v_7,v102,v110] h108 fun v111 h112=>
 ld1 v67 h112 fun v113=>
 eqC v113 v68<|
 ld1 v71 h112 fun v114=>
 eqC v114 v72<|
 ld1 v76 h112 fun v115=>
 eqC v115 v77<|
 ld1 v80 h112 fun v116=>
 eqC v116 v81<|
 c (.func 82) [v81,v111] h112 fun v117 h118=>
 ld1 v67 h118 fun v119=>
 eqC v119 v68<|
 ld1 v71 h118 fun v120=>
 eqC v120 v72<|
 ld1 v76 h118 fun v121=>
 eqC v121 v77<|
 oK (Ar env .append [30,30] [v77,v117] h118) fun v122 h123=>
 ld1 v67 h123 fun v124=>
 eqC v124 v68<|
 oK (Ag v68 h123) fun v125 h126=>
 Ac 8 v125 fun v127=>
 Ac 0 v127 fun v128=>
 st1 v128 v122 h126 fun h129=>
 J.a1 v_0 v_1 v_4 n_5 h129)
 (J.a1 v_0 v_1 v_4 n_5 h62))
def Anh(_c:CF)(_k:KV)(J:J57)(v_0 v_1 v_4:AV)(n_5:Int)(v_7:AV)(n_8:Int)(h:H):Prop:=
 fI (wrap .i64 (Bq n_5 (Int.ofNat 1))) fun n130=>
 J.a2 v_0 v_1 v_4 n130 v_7 n_8 h
def z57:J57:=⟨fun _ _ _=>False,fun _ _ _ _ _=>False,fun _ _ _ _ _ _ _=>False,fun _ _ _ _ _ _ _=>False⟩
def r57(c:CF)(k:KV)(m:Nat):J57:=Nat.rec z57 (fun _ J=>⟨Ani c k J,Ahn c k J,Ahm c k J,Anh c k J⟩) m
def f57(J:J57):Jump:=fun L f h=>match L with
 |0=>J.a0 (f 0) (f 1) h
 |1=>asI .i64 (f 5) fun n_5=>J.a1 (f 0) (f 1) (f 4) n_5 h
 |2=>asI .i64 (f 5) fun n_5=>asI .i64 (f 8) fun n_8=>J.a2 (f 0) (f 1) (f 4) n_5 (f 7) n_8 h
 |3=>asI .i64 (f 5) fun n_5=>asI .i64 (f 8) fun n_8=>J.a3 (f 0) (f 1) (f 4) n_5 (f 7) n_8 h
 |_=>False
def u57:Bb:=[(.root,0),((.l (.r (.r .root))),1),((.l (.l (.r (.r (.r (.r (.l (.r (.l (.l (.r (.r .root)))))))))))),2),((.r (.r (.l (.l (.l (.r (.r (.r (.r (.l (.r (.l (.l (.r (.r .root))))))))))))))),3)]
def d62:Code:=Option.rec .skip (fun c=>c) Tryz.f62.body
def q62:Aq:=[]
structure J62 where
 a0:Nat→Nat→H→Prop
def Ang(c:CF)(k:KV)(_J:J62)(l_0 c_0:Nat)(h:H):Prop:=
 c (.func 67) [(.str l_0 c_0)] h fun v1 h2=>
 Ay (fun k3=>gate true (Ci (Dv l_0 c_0 0 0))
 (Cz v1 fun m6=>
 Ay (fun k7=>gate false (Bx (Int.ofNat m6) (Int.ofNat 0))
 (Cz v1 fun m10=>
 fI (wrap .i64 (Mg (Int.ofNat m10) (Int.ofNat 1))) fun n11=>
 Ce n11 fun m12=>
 Cc 3 m12 v1 fun v13=>
 Ac 0 v13 fun v14=>
 ld1 v14 h2 fun v15=>
 asI .u8 v15 fun n16=>
 k7 (Ci (Bx n16 (Int.ofNat 10))) h2)
 (k7 true h2)) fun b9 h8=>
 k3 b9 h8)
 (k3 false h2)) fun b5 h4=>
 cnd b5
 (oK (Ax env (env.ty 165) [(0,(.int .u8 (Int.ofNat 10))),(1,(.int .i64 (Int.ofNat l_0))),(2,(.int .i64 (Int.ofNat l_0)))] h4) fun v17 h18=>
 oK (Ap env 160 (fun e ei=>Ak 1 [(0,v17)] h18 e ei)) fun v19 h20=>
 oK (Ar env .append [160,160] [v1,v19] h20) fun v21 h22=>
 k v21 h22)
 (k v1 h4)
def z62:J62:=⟨fun _ _ _=>False⟩
def r62(c:CF)(k:KV)(m:Nat):J62:=Nat.rec z62 (fun _ J=>⟨Ang c k J⟩) m
def f62(J:J62):Jump:=fun L f h=>match L with
 |0=>asS (f 0) fun l_0 c_0=>J.a0 l_0 c_0 h
 |_=>False
def u62:Bb:=[(.root,0)]
def d63:Code:=Option.rec .skip (fun c=>c) Tryz.f63.body
def q63:Aq:=[]
structure J63 where
 a0:AV→H→Prop
 a1:AV→AV→H→Prop
def Anf(_c:CF)(_k:KV)(J:J63)(v_0:AV)(h:H):Prop:=
 Hp.Cs h Aal fun p1 h2=>
 oK (Ag v_0 h2) fun v3 h4=>
 Ac 4 v3 fun v5=>
 st1 v5 (.bool false) h4 fun h6=>
 J.a1 v_0 (.ptr p1 0) h6
def Ane(c:CF)(k:KV)(J:J63)(v_0 v_2:AV)(h:H):Prop:=
 c (.func 86) [v_0] h fun v7 h8=>
 ext 0 v7 fun v9=>
 ext 1 v7 fun v10=>
 asB v10 fun b11=>
 ext 2 v7 fun v12=>
 asB v12 fun b13=>
 Hp.Cs h8 Aaj fun p14 h15=>
 stn 8 (.ptr p14 0) v9 h15 fun h16=>
 Ac 3 v_2 fun v17=>
 st1 v17 (.bool b11) h16 fun h18=>
 cnd (Ci b13)
 (ldn 4 v_2 h18 fun v19=>
 stn 4 v_2 v19 h18 fun h20=>
 ldn 4 v_2 h20 fun v21=>
 k v21 h20)
 (Ac 0 v_2 fun v22=>
 ld1 v22 h18 fun v23=>
 ldn 8 (.ptr p14 0) h18 fun v24=>
 oK (Ap env 30 (fun e ei=>Ak 1 [(0,v24)] h18 e ei)) fun v25 h26=>
 oK (Ar env .append [30,30] [v23,v25] h26) fun v27 h28=>
 Ac 0 v_2 fun v29=>
 st1 v29 v27 h28 fun h30=>
 J.a1 v_0 v_2 h30)
def z63:J63:=⟨fun _ _=>False,fun _ _ _=>False⟩
def r63(c:CF)(k:KV)(m:Nat):J63:=Nat.rec z63 (fun _ J=>⟨Anf c k J,Ane c k J⟩) m
def f63(J:J63):Jump:=fun L f h=>match L with
 |0=>J.a0 (f 0) h
 |1=>J.a1 (f 0) (f 2) h
 |_=>False
def u63:Bb:=[(.root,0),((.l (.r (.r .root))),1)]
def d64:Code:=Option.rec .skip (fun c=>c) Tryz.f64.body
def q64:Aq:=[]
structure J64 where
 a0:AV→AV→H→Prop
 a1:AV→AV→Int→H→Prop
def Anb(_c:CF)(_k:KV)(J:J64)(v_0 v_1:AV)(h:H):Prop:=
 ld1 v_1 h fun v1=>
 Cz v1 fun m2=>
 fI (wrap .i64 (Mg (Int.ofNat m2) (Int.ofNat 1))) fun n3=>
 J.a1 v_0 v_1 n3 h
def Ahl(c:CF)(k:KV)(J:J64)(v_0 v_1:AV)(n_3:Int)(h:H):Prop:=
 cnd (Ef (Int.ofNat 0) n_3)
 (ld1 v_1 h fun v4=>
 Ce n_3 fun m5=>
 Cc 8 m5 v4 fun v6=>
 ldn 8 v6 h fun v7=>
 Mq (CP env) c v_0 [(.int .i64 n_3),v7] h fun v8 h9=>
 asB v8 fun b10=>
 cnd (Ci b10)
 (k (.tuple []) h9)
 (fI (wrap .i64 (Mg n_3 (Int.ofNat 1))) fun n11=>
 J.a1 v_0 v_1 n11 h9))
 (k (.tuple []) h)
def z64:J64:=⟨fun _ _ _=>False,fun _ _ _ _=>False⟩
def r64(c:CF)(k:KV)(m:Nat):J64:=Nat.rec z64 (fun _ J=>⟨Anb c k J,Ahl c k J⟩) m
def f64(J:J64):Jump:=fun L f h=>match L with
 |0=>J.a0 (f 0) (f 1) h
 |1=>asI .i64 (f 3) fun n_3=>J.a1 (f 0) (f 1) n_3 h
 |_=>False
def u64:Bb:=[(.root,0),((.l (.r .root)),1)]
def d65:Code:=Option.rec .skip (fun c=>c) Tryz.f65.body
def q65:Aq:=[(1,[0,1,2,3,4,5,6,7,8,9,10,11,12,13,14])]
structure J65 where
 a0:AV→Int→H→Prop
def Ana(_c:CF)(k:KV)(_J:J65)(v_0:AV)(n_1:Int)(h:H):Prop:=
 Hp.Cs h Aun fun p1 h2=>
 oK (Ag v_0 h2) fun v3 h4=>
 Ac 2 v3 fun v5=>
 ld1 v5 h4 fun v6=>
 oK (Ag v_0 h4) fun v7 h8=>
 Ac 2 v7 fun v9=>
 ld1 v9 h8 fun v10=>
 Cz v10 fun m11=>
 fI (wrap .i64 (Mg (Int.ofNat m11) (Int.ofNat 1))) fun n12=>
 fI (wrap .i64 (Mg n12 n_1)) fun n13=>
 Ce n13 fun m14=>
 Cc 9 m14 v6 fun v15=>
 ldn 9 v15 h8 fun v16=>
 stn 9 (.ptr p1 0) v16 h8 fun h17=>
 ldn 9 (.ptr p1 0) h17 fun v18=>
 k v18 h17
def z65:J65:=⟨fun _ _ _=>False⟩
def r65(c:CF)(k:KV)(m:Nat):J65:=Nat.rec z65 (fun _ J=>⟨Ana c k J⟩) m
def f65(J:J65):Jump:=fun L f h=>match L with
 |0=>asI .i64 (f 1) fun n_1=>J.a0 (f 0) n_1 h
 |_=>False
def u65:Bb:=[(.root,0)]
def d66:Code:=Option.rec .skip (fun c=>c) Tryz.f66.body
def q66:Aq:=[(7,[0,1,2,3,4,5,6,7,8,9,10,11,12]),(8,[0,1,2,3,4,5,6,7,8,9,10,11]),(9,[0,1,2,3,4,5,6,7,8,9,10,11])]
structure J66 where
 a0:AV→AV→H→Prop
 a1:AV→AV→H→Prop
def Am9(c:CF)(k:KV)(J:J66)(v_0 v_1:AV)(h:H):Prop:=
 asG v_1 fun g1=>
 chk (Nat.ble 1 (len g1))<|
 Hp.Cs h (rowOf 124 g1) fun p2 h3=>
 Ac 0 (.ptr p2 0) fun v4=>
 Ac 0 v4 fun v5=>
 ld1 v5 h3 fun v6=>
 asI .i64 v6 fun n7=>
 Ay (fun k8=>gate false (Ci (Bx n7 (Int.ofNat 1)))
 (Ac 8 (.ptr p2 0) fun v11=>
 ld1 v11 h3 fun v12=>
 Ac 0 (.ptr p2 0) fun v13=>
 Ac 1 v13 fun v14=>
 ld1 v14 h3 fun v15=>
 asS v15 fun l16 c17=>
 c (.func 87) [v12,(.str l16 c17)] h3 fun v18 h19=>
 asB v18 fun b20=>
 k8 b20 h19)
 (k8 true h3)) fun b10 h9=>
 cnd b10
 (ldn 9 (.ptr p2 0) h9 fun v21=>
 c (.func 88) [v_0,v21] h9 fun _ h23=>
 k (.tuple []) h23)
 (Ac 0 (.ptr p2 0) fun v24=>
 ldn 8 v24 h9 fun v25=>
 c (.func 89) [v_0,v25] h9 fun v26 h27=>
 ext 0 v26 fun v28=>
 ext 1 v26 fun v29=>
 asB v29 fun b30=>
 Hp.Cs h27 Aaj fun p31 h32=>
 stn 8 (.ptr p31 0) v28 h32 fun h33=>
 cnd b30
 (ldn 8 (.ptr p31 0) h33 fun v34=>
 Ac 8 (.ptr p2 0) fun v35=>
 ld1 v35 h33 fun v36=>
 oK (Ax env (env.ty 124) [(0,v34),(1,v36)] h33) fun v37 h38=>
 c (.func 88) [v_0,v37] h38 fun _ h40=>
 k (.tuple []) h40)
 (oK (Ag v_0 h33) fun v41 h42=>
 Ac 0 v41 fun v43=>
 ld1 v43 h42 fun v44=>
 oK (Ag v44 h42) fun v45 h46=>
 Ac 0 v45 fun v47=>
 ld1 v47 h46 fun v48=>
 oV (Hh env .neq 91 v48 .Cm) fun v49=>
 asB v49 fun b50=>
 cnd b50
 (oK (Ag v_0 h46) fun v51 h52=>
 Ac 0 v51 fun v53=>
 ld1 v53 h52 fun v54=>
 oK (Ag v54 h52) fun v55 h56=>
 Ac 5 v55 fun v57=>
 ld1 v57 h56 fun v58=>
 Ac 0 (.ptr p2 0) fun v59=>
 Ac 1 v59 fun v60=>
 ld1 v60 h56 fun v61=>
 asS v61 fun l62 c63=>
 oK (Db env 95 v58 (.str l62 c63) false h56) fun v64 h65=>
 asI .i64 v64 fun n66=>
 fI (wrap .i64 (Bq n66 (Int.ofNat 1))) fun n67=>
 oK (Dj env 95 v58 (.str l62 c63) (.int .i64 n67) h65) fun _ h69=>
 J.a1 v_0 (.ptr p2 0) h69)
 (J.a1 v_0 (.ptr p2 0) h46)))
def Am8(c:CF)(k:KV)(_J:J66)(v_0 v_3:AV)(h:H):Prop:=
 oK (Ag v_0 h) fun v70 h71=>
 Ac 0 v70 fun v72=>
 ld1 v72 h71 fun v73=>
 oK (Ag v73 h71) fun v74 h75=>
 Ac 0 v74 fun v76=>
 ld1 v76 h75 fun v77=>
 Ac 0 v_3 fun v78=>
 Ac 1 v78 fun v79=>
 ld1 v79 h75 fun v80=>
 asS v80 fun l81 c82=>
 c (.func 90) [v77,(.str l81 c82)] h75 fun v83 h84=>
 oV (Hh env .eql 216 v83 .Cm) fun v85=>
 asB v85 fun b86=>
 Ay (fun k87=>gate false b86
 (oK (Ag v83 h84) fun v90 h91=>
 Ac 1 v90 fun v92=>
 ld1 v92 h91 fun v93=>
 asB v93 fun b94=>
 Ay (fun k95=>gate true b94
 (oK (Ag v_0 h91) fun v98 h99=>
 Ac 2 v98 fun v100=>
 ld1 v100 h99 fun v101=>
 Cz v101 fun m102=>
 Ay (fun k103=>gate false (Bx (Int.ofNat m102) (Int.ofNat 0))
 (c (.func 65) [v_0,(.int .i64 (Int.ofNat 0))] h99 fun v106 h107=>
 Bfj 0 8 v106 fun v108=>
 c (.func 91) [v108,(.str 1 40)] h107 fun v109 h110=>
 asB v109 fun b111=>
 k103 (Ci b111) h110)
 (k103 true h99)) fun b105 h104=>
 k95 b105 h104)
 (k95 false h91)) fun b97 h96=>
 k87 b97 h96)
 (k87 true h84)) fun b89 h88=>
 cnd b89
 (ldn 9 v_3 h88 fun v112=>
 c (.func 88) [v_0,v112] h88 fun _ h114=>
 k (.tuple []) h114)
 (oK (Ag v83 h88) fun v115 h116=>
 Ac 1 v115 fun v117=>
 ld1 v117 h116 fun v118=>
 asB v118 fun b119=>
 cnd b119
 (ldn 9 v_3 h116 fun v120=>
 c (.func 92) [v_0,v83,v120] h116 fun _ h122=>
 k (.tuple []) h122)
 (ldn 9 v_3 h116 fun v123=>
 Ac 8 v_3 fun v124=>
 ld1 v124 h116 fun v125=>
 oK (Ag v83 h116) fun v126 h127=>
 Ac 0 v126 fun v128=>
 ld1 v128 h127 fun v129=>
 asS v129 fun l130 c131=>
 oK (Ap env 32 (fun e ei=>Ak 1 [(0,(.str l130 c131))] h127 e ei)) fun v132 h133=>
 ldn 9 v_3 h133 fun v134=>
 eqC v134 v123<|
 ld1 v124 h133 fun v135=>
 eqC v135 v125<|
 c (.func 94) [v125,v132] h133 fun v136 h137=>
 ldn 9 v_3 h137 fun v138=>
 eqC v138 v123<|
 c (.func 93) [v_0,v83,v123,.Ai,.Ai,v136] h137 fun _ h140=>
 k (.tuple []) h140))
def z66:J66:=⟨fun _ _ _=>False,fun _ _ _=>False⟩
def r66(c:CF)(k:KV)(m:Nat):J66:=Nat.rec z66 (fun _ J=>⟨Am9 c k J,Am8 c k J⟩) m
def f66(J:J66):Jump:=fun L f h=>match L with
 |0=>J.a0 (f 0) (f 1) h
 |1=>J.a1 (f 0) (f 3) h
 |_=>False
def u66:Bb:=[(.root,0),((.r (.r (.r (.r .root)))),1)]
def d67:Code:=Option.rec .skip (fun c=>c) Tryz.f67.body
def q67:Aq:=[]
structure J67 where
 a0:Nat→Nat→H→Prop
 a1:Nat→Nat→AV→Int→H→Prop
def Ate(c:CF)(k:KV)(J:J67)(l_0 c_0:Nat)(h:H):Prop:=
 cnd (Ef (Int.ofNat l_0) (Int.ofNat 0))
 (k .Ai h)
 (c (.func 95) [(.str l_0 c_0),(.int .i64 (Int.ofNat 0))] h fun v1 h2=>
 Hp.Cs h2 Ut fun p3 h4=>
 stn 3 (.ptr p3 0) v1 h4 fun h5=>
 Ac 2 (.ptr p3 0) fun v6=>
 ld1 v6 h5 fun v7=>
 asI .i64 v7 fun n8=>
 Ac 0 (.ptr p3 0) fun v9=>
 ld1 v9 h5 fun v10=>
 asI .u8 v10 fun n11=>
 Ay (fun k12=>gate true (Bx n11 (Int.ofNat 92))
 (k12 (Ca n8 (Int.ofNat l_0)) h5)
 (k12 false h5)) fun b14 h13=>
 Ay (fun k15=>gate true b14
 (Ce n8 fun m18=>
 Ij l_0 c_0 m18 fun m19=>
 k15 (Bx (Int.ofNat m19) (Int.ofNat 10)) h13)
 (k15 false h13)) fun b17 h16=>
 cnd b17
 (fI (wrap .i64 (Bq n8 (Int.ofNat 1))) fun n20=>
 J.a1 l_0 c_0 .Ai n20 h16)
 (ldn 3 (.ptr p3 0) h16 fun v21=>
 oK (Ap env 160 (fun e ei=>Ak 1 [(0,v21)] h16 e ei)) fun v22 h23=>
 oK (Ar env .append [160,160] [.Ai,v22] h23) fun v24 h25=>
 J.a1 l_0 c_0 v24 n8 h25))
def Acu(c:CF)(k:KV)(J:J67)(l_0 c_0:Nat)(v_2:AV)(n_3:Int)(h:H):Prop:=
 cnd (Ef (Int.ofNat l_0) n_3)
 (k v_2 h)
 (c (.func 95) [(.str l_0 c_0),(.int .i64 n_3)] h fun v26 h27=>
 Hp.Cs h27 Ut fun p28 h29=>
 stn 3 (.ptr p28 0) v26 h29 fun h30=>
 Ac 2 (.ptr p28 0) fun v31=>
 ld1 v31 h30 fun v32=>
 asI .i64 v32 fun n33=>
 Ac 0 (.ptr p28 0) fun v34=>
 ld1 v34 h30 fun v35=>
 asI .u8 v35 fun n36=>
 Ay (fun k37=>gate true (Bx n36 (Int.ofNat 92))
 (k37 (Ca n33 (Int.ofNat l_0)) h30)
 (k37 false h30)) fun b39 h38=>
 Ay (fun k40=>gate true b39
 (Ce n33 fun m43=>
 Ij l_0 c_0 m43 fun m44=>
 k40 (Bx (Int.ofNat m44) (Int.ofNat 10)) h38)
 (k40 false h38)) fun b42 h41=>
 cnd b42
 (fI (wrap .i64 (Bq n33 (Int.ofNat 1))) fun n45=>
 J.a1 l_0 c_0 v_2 n45 h41)
 (ldn 3 (.ptr p28 0) h41 fun v46=>
 oK (Ap env 160 (fun e ei=>Ak 1 [(0,v46)] h41 e ei)) fun v47 h48=>
 oK (Ar env .append [160,160] [v_2,v47] h48) fun v49 h50=>
 J.a1 l_0 c_0 v49 n33 h50))
def z67:J67:=⟨fun _ _ _=>False,fun _ _ _ _ _=>False⟩
def r67(c:CF)(k:KV)(m:Nat):J67:=Nat.rec z67 (fun _ J=>⟨Ate c k J,Acu c k J⟩) m
def f67(J:J67):Jump:=fun L f h=>match L with
 |0=>asS (f 0) fun l_0 c_0=>J.a0 l_0 c_0 h
 |1=>asS (f 0) fun l_0 c_0=>asI .i64 (f 3) fun n_3=>J.a1 l_0 c_0 (f 2) n_3 h
 |_=>False
def u67:Bb:=[(.root,0),((.lab (.r .root) 0),1)]
def d68:Code:=Option.rec .skip (fun c=>c) Tryz.f68.body
def q68:Aq:=[]
structure J68 where
 a0:AV→Int→H→Prop
def Am7(c:CF)(k:KV)(_J:J68)(v_0:AV)(n_1:Int)(h:H):Prop:=
 c (.func 96) [v_0] h fun _ h2=>
 oK (Ag v_0 h2) fun v3 h4=>
 Ac 1 v3 fun v5=>
 ld1 v5 h4 fun v6=>
 oK (Ap env 68 (fun e ei=>Ak 1 [(0,(.int .u8 n_1))] h4 e ei)) fun v7 h8=>
 oK (Ar env .append [68,68] [v6,v7] h8) fun v9 h10=>
 oK (Ag v_0 h10) fun v11 h12=>
 Ac 1 v11 fun v13=>
 st1 v13 v9 h12 fun h14=>
 k .Mf h14
def z68:J68:=⟨fun _ _ _=>False⟩
def r68(c:CF)(k:KV)(m:Nat):J68:=Nat.rec z68 (fun _ J=>⟨Am7 c k J⟩) m
def f68(J:J68):Jump:=fun L f h=>match L with
 |0=>asI .u8 (f 1) fun n_1=>J.a0 (f 0) n_1 h
 |_=>False
def u68:Bb:=[(.root,0)]
def d69:Code:=Option.rec .skip (fun c=>c) Tryz.f69.body
def q69:Aq:=[(1,[0,1,2,3,4,5,6,7,8,9,10,11])]
structure J69 where
 a0:AV→H→Prop
def Am6(_c:CF)(k:KV)(_J:J69)(v_0:AV)(h:H):Prop:=
 oK (Ag v_0 h) fun v1 h2=>
 Ac 1 v1 fun v3=>
 ld1 v3 h2 fun v4=>
 oK (Ar env .unsafeSliceData [68] [v4] h2) fun v5 h6=>
 oK (Ag v_0 h6) fun v7 h8=>
 Ac 1 v7 fun v9=>
 ld1 v9 h8 fun v10=>
 Cz v10 fun m11=>
 oK (Ar env .unsafeString [225,3] [v5,(.int .i64 (Int.ofNat m11))] h8) fun v12 h13=>
 asS v12 fun l14 c15=>
 k (.str l14 c15) h13
def z69:J69:=⟨fun _ _=>False⟩
def r69(c:CF)(k:KV)(m:Nat):J69:=Nat.rec z69 (fun _ J=>⟨Am6 c k J⟩) m
def f69(J:J69):Jump:=fun L f h=>match L with
 |0=>J.a0 (f 0) h
 |_=>False
def u69:Bb:=[(.root,0)]
def d70:Code:=Option.rec .skip (fun c=>c) Tryz.f70.body
def q70:Aq:=[]
structure J70 where
 a0:AV→AV→H→Prop
def Am5(c:CF)(k:KV)(_J:J70)(v_0 v_1:AV)(h:H):Prop:=
 c (.func 44) [v_0] h fun v1 h2=>
 asI .i64 v1 fun n3=>
 cnd (Bx n3 (Int.ofNat 0))
 (k (.tuple []) h2)
 (oK (Ag v_0 h2) fun v4 h5=>
 Ac 1 v4 fun v6=>
 ld1 v6 h5 fun v7=>
 oV (Hh env .eql 80 v7 .Cm) fun v8=>
 asB v8 fun b9=>
 cnd b9
 (oK (Ag v_0 h5) fun v10 h11=>
 Ac 0 v10 fun v12=>
 ld1 v12 h11 fun v13=>
 asS v13 fun l14 c15=>
 Mq (CP env) c v_1 [(.str l14 c15)] h11 fun _ h17=>
 k (.tuple []) h17)
 (oK (Ag v_0 h5) fun v18 h19=>
 Ac 1 v18 fun v20=>
 ld1 v20 h19 fun v21=>
 c (.func 70) [v21,v_1] h19 fun _ h23=>
 oK (Ag v_0 h23) fun v24 h25=>
 Ac 2 v24 fun v26=>
 ld1 v26 h25 fun v27=>
 c (.func 70) [v27,v_1] h25 fun _ h29=>
 k (.tuple []) h29))
def z70:J70:=⟨fun _ _ _=>False⟩
def r70(c:CF)(k:KV)(m:Nat):J70:=Nat.rec z70 (fun _ J=>⟨Am5 c k J⟩) m
def f70(J:J70):Jump:=fun L f h=>match L with
 |0=>J.a0 (f 0) (f 1) h
 |_=>False
def u70:Bb:=[(.root,0)]
def d71:Code:=Option.rec .skip (fun c=>c) Tryz.f71.body
def q71:Aq:=[]
structure J71 where
 a0:Nat→Nat→AV→H→Prop
def Am4(c:CF)(k:KV)(_J:J71)(l_0 c_0:Nat)(v_1:AV)(h:H):Prop:=
 c (.func 72) [v_1,(.str l_0 c_0)] h fun _ h2=>
 k (.tuple []) h2
def z71:J71:=⟨fun _ _ _ _=>False⟩
def r71(c:CF)(k:KV)(m:Nat):J71:=Nat.rec z71 (fun _ J=>⟨Am4 c k J⟩) m
def f71(J:J71):Jump:=fun L f h=>match L with
 |0=>asS (f 0) fun l_0 c_0=>J.a0 l_0 c_0 (f 1) h
 |_=>False
def u71:Bb:=[(.root,0)]
def d72:Code:=Option.rec .skip (fun c=>c) Tryz.f72.body
def q72:Aq:=[]
structure J72 where
 a0:AV→Nat→Nat→H→Prop
def Am3(c:CF)(k:KV)(_J:J72)(v_0:AV)(l_1 c_1:Nat)(h:H):Prop:=
 c (.func 96) [v_0] h fun _ h2=>
 oK (Ag v_0 h2) fun v3 h4=>
 Ac 1 v3 fun v5=>
 ld1 v5 h4 fun v6=>
 oK (Ar env .append [68,9] [v6,(.str l_1 c_1)] h4) fun v7 h8=>
 oK (Ag v_0 h8) fun v9 h10=>
 Ac 1 v9 fun v11=>
 st1 v11 v7 h10 fun h12=>
 k (.tuple [(.int .i64 (Int.ofNat l_1)),.Mf]) h12
def z72:J72:=⟨fun _ _ _ _=>False⟩
def r72(c:CF)(k:KV)(m:Nat):J72:=Nat.rec z72 (fun _ J=>⟨Am3 c k J⟩) m
def f72(J:J72):Jump:=fun L f h=>match L with
 |0=>asS (f 1) fun l_1 c_1=>J.a0 (f 0) l_1 c_1 h
 |_=>False
def u72:Bb:=[(.root,0)]
def d73:Code:=Option.rec .skip (fun c=>c) Tryz.f73.body
def q73:Aq:=[]
structure J73 where
 a0:Nat→Nat→Nat→Nat→Int→H→Prop
def Am2(_c:CF)(k:KV)(_J:J73)(l_0 c_0:Nat)(l_1 c_1:Nat)(n_2:Int)(h:H):Prop:=
 Hp.Cs h (rowOf 9 [(.str l_0 c_0)]) fun p1 h2=>
 Hp.Cs h2 (rowOf 9 [(.str l_1 c_1)]) fun p3 h4=>
 Hp.Cs h4 (rowOf 3 [(.int .i64 n_2)]) fun p5 h6=>
 k (.func (.func 97) [] [(.ptr p3 0),(.ptr p1 0),(.ptr p5 0)]) h6
def z73:J73:=⟨fun _ _ _ _ _ _=>False⟩
def r73(c:CF)(k:KV)(m:Nat):J73:=Nat.rec z73 (fun _ J=>⟨Am2 c k J⟩) m
def f73(J:J73):Jump:=fun L f h=>match L with
 |0=>asS (f 0) fun l_0 c_0=>asS (f 1) fun l_1 c_1=>asI .i64 (f 2) fun n_2=>J.a0 l_0 c_0 l_1 c_1 n_2 h
 |_=>False
def u73:Bb:=[(.root,0)]
def d74:Code:=Option.rec .skip (fun c=>c) Tryz.f74.body
def q74:Aq:=[]
structure J74 where
 a0:Int→H→Prop
def Am1(_c:CF)(k:KV)(_J:J74)(n_0:Int)(h:H):Prop:=
 Ay (fun k1=>gate true (Ef (Int.ofNat 97) n_0)
 (k1 (Ef n_0 (Int.ofNat 122)) h)
 (k1 false h)) fun b3 h2=>
 Ay (fun k4=>gate false b3
 (Ay (fun k7=>gate true (Ef (Int.ofNat 65) n_0)
 (k7 (Ef n_0 (Int.ofNat 90)) h2)
 (k7 false h2)) fun b9 h8=>
 k4 b9 h8)
 (k4 true h2)) fun b6 h5=>
 Ay (fun k10=>gate false b6
 (Ay (fun k13=>gate true (Ef (Int.ofNat 48) n_0)
 (k13 (Ef n_0 (Int.ofNat 57)) h5)
 (k13 false h5)) fun b15 h14=>
 k10 b15 h14)
 (k10 true h5)) fun b12 h11=>
 Ay (fun k16=>gate false b12
 (k16 (Bx n_0 (Int.ofNat 46)) h11)
 (k16 true h11)) fun b18 h17=>
 Ay (fun k19=>gate false b18
 (k19 (Bx n_0 (Int.ofNat 45)) h17)
 (k19 true h17)) fun b21 h20=>
 Ay (fun k22=>gate false b21
 (k22 (Bx n_0 (Int.ofNat 95)) h20)
 (k22 true h20)) fun b24 h23=>
 k (.bool b24) h23
def z74:J74:=⟨fun _ _=>False⟩
def r74(c:CF)(k:KV)(m:Nat):J74:=Nat.rec z74 (fun _ J=>⟨Am1 c k J⟩) m
def f74(J:J74):Jump:=fun L f h=>match L with
 |0=>asI .u8 (f 0) fun n_0=>J.a0 n_0 h
 |_=>False
def u74:Bb:=[(.root,0)]
def d75:Code:=Option.rec .skip (fun c=>c) Tryz.f75.body
def q75:Aq:=[]
structure J75 where
 a0:Nat→Nat→H→Prop
def Am0(_c:CF)(k:KV)(_J:J75)(l_0 c_0:Nat)(h:H):Prop:=
 cnd (Dv l_0 c_0 0 0)
 (k .Cm h)
 (oK (Ax env (env.ty 180) [(0,(.str l_0 c_0)),(3,(.int .i64 (Int.ofNat l_0))),(4,(.int .i64 (Int.ofNat 1)))] h) fun v1 h2=>
 asG v1 fun g3=>
 chk (Nat.ble 1 (len g3))<|
 Hp.Cs h2 (rowOf 180 g3) fun p4 h5=>
 k (.ptr p4 0) h5)
def z75:J75:=⟨fun _ _ _=>False⟩
def r75(c:CF)(k:KV)(m:Nat):J75:=Nat.rec z75 (fun _ J=>⟨Am0 c k J⟩) m
def f75(J:J75):Jump:=fun L f h=>match L with
 |0=>asS (f 0) fun l_0 c_0=>J.a0 l_0 c_0 h
 |_=>False
def u75:Bb:=[(.root,0)]
def d76:Code:=Option.rec .skip (fun c=>c) Tryz.f76.body
def q76:Aq:=[]
structure J76 where
 a0:AV→AV→H→Prop
def Amz(c:CF)(k:KV)(_J:J76)(v_0 v_1:AV)(h:H):Prop:=
 c (.func 44) [v_0] h fun v1 h2=>
 asI .i64 v1 fun n3=>
 c (.func 44) [v_1] h2 fun v4 h5=>
 asI .i64 v4 fun n6=>
 fI (wrap .i64 (Bq n3 n6)) fun n7=>
 c (.func 100) [v_0] h5 fun v8 h9=>
 asI .i64 v8 fun n10=>
 c (.func 100) [v_1] h9 fun v11 h12=>
 asI .i64 v11 fun n13=>
 oK (Ar env .max [3,3] [(.int .i64 n10),(.int .i64 n13)] h12) fun v14 h15=>
 asI .i64 v14 fun n16=>
 fI (wrap .i64 (Bq (Int.ofNat 1) n16)) fun n17=>
 oK (Ax env (env.ty 180) [(1,v_0),(2,v_1),(3,(.int .i64 n7)),(4,(.int .i64 n17))] h15) fun v18 h19=>
 asG v18 fun g20=>
 chk (Nat.ble 1 (len g20))<|
 Hp.Cs h19 (rowOf 180 g20) fun p21 h22=>
 k (.ptr p21 0) h22
def z76:J76:=⟨fun _ _ _=>False⟩
def r76(c:CF)(k:KV)(m:Nat):J76:=Nat.rec z76 (fun _ J=>⟨Amz c k J⟩) m
def f76(J:J76):Jump:=fun L f h=>match L with
 |0=>J.a0 (f 0) (f 1) h
 |_=>False
def u76:Bb:=[(.root,0)]
def d77:Code:=Option.rec .skip (fun c=>c) Tryz.f77.body
def q77:Aq:=[]
structure J77 where
 a0:AV→Int→H→Prop
def Amy(c:CF)(k:KV)(_J:J77)(v_0:AV)(n_1:Int)(h:H):Prop:=
 oK (Ag v_0 h) fun v1 h2=>
 Ac 0 v1 fun v3=>
 c (.func 101) [v3,(.int .i64 n_1)] h2 fun v4 h5=>
 asI .i64 v4 fun n6=>
 k (.int .i64 n6) h5
def z77:J77:=⟨fun _ _ _=>False⟩
def r77(c:CF)(k:KV)(m:Nat):J77:=Nat.rec z77 (fun _ J=>⟨Amy c k J⟩) m
def f77(J:J77):Jump:=fun L f h=>match L with
 |0=>asI .i64 (f 1) fun n_1=>J.a0 (f 0) n_1 h
 |_=>False
def u77:Bb:=[(.root,0)]
def d79:Code:=Option.rec .skip (fun c=>c) Tryz.f79.body
def q79:Aq:=[(7,[0,1,2,3,4,5,6,7,8])]
structure J79 where
 a0:AV→AV→H→Prop
def Amx(c:CF)(k:KV)(_J:J79)(v_0 v_1:AV)(h:H):Prop:=
 Cz v_1 fun m1=>
 Ay (fun k2=>gate false (Bx (Int.ofNat m1) (Int.ofNat 0))
 (Cc 8 0 v_1 fun v5=>
 ldn 8 v5 h fun v6=>
 c (.func 102) [v6] h fun v7 h8=>
 asB v7 fun b9=>
 k2 (Ci b9) h8)
 (k2 true h)) fun b4 h3=>
 cnd b4
 (k (.int .i64 (Int.ofNat 0)) h3)
 (Cz v_1 fun m10=>
 cnd (Bx (Int.ofNat m10) (Int.ofNat 1))
 (k (.int .i64 (Int.ofNat 1)) h3)
 (Cc 8 1 v_1 fun v11=>
 Ac 0 v11 fun v12=>
 ld1 v12 h3 fun v13=>
 asI .i64 v13 fun n14=>
 cnd (Ci (Bx n14 (Int.ofNat 1)))
 (k (.int .i64 (Int.ofNat 14)) h3)
 (oK (Ag v_0 h3) fun v15 h16=>
 Ac 0 v15 fun v17=>
 Cc 8 1 v_1 fun v18=>
 Ac 1 v18 fun v19=>
 ld1 v19 h16 fun v20=>
 asS v20 fun l21 c22=>
 c (.func 103) [v17,(.str l21 c22)] h16 fun v23 h24=>
 asI .i64 v23 fun n25=>
 k (.int .i64 n25) h24)))
def z79:J79:=⟨fun _ _ _=>False⟩
def r79(c:CF)(k:KV)(m:Nat):J79:=Nat.rec z79 (fun _ J=>⟨Amx c k J⟩) m
def f79(J:J79):Jump:=fun L f h=>match L with
 |0=>J.a0 (f 0) (f 1) h
 |_=>False
def u79:Bb:=[(.root,0)]
def d80:Code:=Option.rec .skip (fun c=>c) Tryz.f80.body
def q80:Aq:=[(3,[0,1,2,3,4,5,6,7,8,9,10,11,12,13,14,15]),(10,[0,1,2,3,4,5,6,7,8])]
def u80:Bb:=[(.root,0),((.r (.r (.l (.r (.l (.r (.r (.r (.r .root))))))))),1),((.r (.r (.r (.l (.r (.r (.r (.r .root)))))))),2),((.r (.l (.r (.r (.r (.r .root)))))),3),((.r (.r (.r .root))),4)]
def d81:Code:=Option.rec .skip (fun c=>c) Tryz.f81.body
def q81:Aq:=[(1,[0,1,2,3,4,5,6,7,8,9,10,11,12,13,14,15,16,17,18,19,20,21,22,23,24])]
structure J81 where
 a0:AV→H→Prop
def Amw(_c:CF)(k:KV)(_J:J81)(v_0:AV)(h:H):Prop:=
 oK (Ag v_0 h) fun v1 h2=>
 Ac 5 v1 fun v3=>
 ld1 v3 h2 fun v4=>
 Cz v4 fun m5=>
 Ay (fun k6=>gate true (Ca (Int.ofNat 0) (Int.ofNat m5))
 (oK (Ag v_0 h2) fun v9 h10=>
 Ac 5 v9 fun v11=>
 ld1 v11 h10 fun v12=>
 oK (Ag v_0 h10) fun v13 h14=>
 Ac 5 v13 fun v15=>
 ld1 v15 h14 fun v16=>
 Cz v16 fun m17=>
 fI (wrap .i64 (Mg (Int.ofNat m17) (Int.ofNat 1))) fun n18=>
 Ce n18 fun m19=>
 Cc 1 m19 v12 fun v20=>
 ld1 v20 h14 fun v21=>
 oK (Ag v21 h14) fun v22 h23=>
 Ac 4 v22 fun v24=>
 ld1 v24 h23 fun v25=>
 asB v25 fun b26=>
 k6 (Ci b26) h23)
 (k6 false h2)) fun b8 h7=>
 k (.bool b8) h7
def z81:J81:=⟨fun _ _=>False⟩
def r81(c:CF)(k:KV)(m:Nat):J81:=Nat.rec z81 (fun _ J=>⟨Amw c k J⟩) m
def f81(J:J81):Jump:=fun L f h=>match L with
 |0=>J.a0 (f 0) h
 |_=>False
def u81:Bb:=[(.root,0)]
def d82:Code:=Option.rec .skip (fun c=>c) Tryz.f82.body
def q82:Aq:=[(1,[0,1,2,3,4,5,6,7,8,9,10,11,12])]
structure J82 where
 a0:AV→AV→H→Prop
 a1:AV→AV→AV→Int→Int→H→Prop
def Amv(_c:CF)(_k:KV)(J:J82)(v_0 v_1:AV)(h:H):Prop:=
 asG v_1 fun g1=>
 chk (Nat.ble 1 (len g1))<|
 Hp.Cs h (rowOf 111 g1) fun p2 h3=>
 oK (Ag v_0 h3) fun v4 h5=>
 Ac 8 v4 fun v6=>
 Ac 1 v6 fun v7=>
 ld1 v7 h5 fun v8=>
 Ac 1 (.ptr p2 0) fun v9=>
 ld1 v9 h5 fun v10=>
 oK (Ar env .append [31,31] [v8,v10] h5) fun v11 h12=>
 oK (Ag v_0 h12) fun v13 h14=>
 Ac 8 v13 fun v15=>
 Ac 1 v15 fun v16=>
 st1 v16 v11 h14 fun h17=>
 oK (Ag v_0 h17) fun v18 h19=>
 Ac 8 v18 fun v20=>
 Ac 4 v20 fun v21=>
 ld1 v21 h19 fun v22=>
 asB v22 fun b23=>
 Ay (fun k24=>gate false b23
 (Ac 2 (.ptr p2 0) fun v27=>
 ld1 v27 h19 fun v28=>
 asB v28 fun b29=>
 k24 b29 h19)
 (k24 true h19)) fun b26 h25=>
 oK (Ag v_0 h25) fun v30 h31=>
 Ac 8 v30 fun v32=>
 Ac 4 v32 fun v33=>
 st1 v33 (.bool b26) h31 fun h34=>
 Ac 3 (.ptr p2 0) fun v35=>
 ld1 v35 h34 fun v36=>
 Cz v36 fun m37=>
 J.a1 v_0 (.ptr p2 0) v36 (Int.ofNat m37) (Int.ofNat 0) h34
def Amu(_c:CF)(k:KV)(J:J82)(v_0 v_3 v_33:AV)(n_34 n_35:Int)(h:H):Prop:=
 cnd (Ca n_35 n_34)
 (Ce n_35 fun m38=>
 Cc 1 m38 v_33 fun v39=>
 ld1 v39 h fun v40=>
 asS v40 fun l41 c42=>
 oK (Ag v_0 h) fun v43 h44=>
 Ac 14 v43 fun v45=>
 ld1 v45 h44 fun v46=>
 oK (Db env 95 v46 (.str l41 c42) false h44) fun v47 h48=>
 asI .i64 v47 fun n49=>
 fI (wrap .i64 (Bq n49 (Int.ofNat 1))) fun n50=>
 oK (Dj env 95 v46 (.str l41 c42) (.int .i64 n50) h48) fun _ h52=>
 fI (wrap .i64 (Bq n_35 (Int.ofNat 1))) fun n53=>
 J.a1 v_0 v_3 v_33 n_34 n53 h52)
 (Ac 0 v_3 fun v54=>
 ld1 v54 h fun v55=>
 k v55 h)
def z82:J82:=⟨fun _ _ _=>False,fun _ _ _ _ _ _=>False⟩
def r82(c:CF)(k:KV)(m:Nat):J82:=Nat.rec z82 (fun _ J=>⟨Amv c k J,Amu c k J⟩) m
def f82(J:J82):Jump:=fun L f h=>match L with
 |0=>J.a0 (f 0) (f 1) h
 |1=>asI .i64 (f 34) fun n_34=>asI .i64 (f 35) fun n_35=>J.a1 (f 0) (f 3) (f 33) n_34 n_35 h
 |_=>False
def u82:Bb:=[(.root,0),((.l (.r (.l (.r (.r (.r .root)))))),1)]
def d86:Code:=Option.rec .skip (fun c=>c) Tryz.f86.body
def q86:Aq:=[(4,[0,1,2,3,4,5,6,7,8,9,10,11,12,13,14,15,16,17,18,19,20,21,22,23]),(5,[0,1,2,3,4,5,6,7,8,9,10,11]),(11,[0,1,2,3,4,5,6,7,8,9,10,11,12,13,14,15,16]),(16,[0,2,3,4,5,6,7,8,9,10,11,12,13,14,15,16,1,17,18,19])]
structure J86 where
 a0:AV→H→Prop
 a1:AV→AV→Bool→AV→Int→Int→AV→Int→Int→H→Prop
 a2:AV→AV→Bool→Bool→AV→H→Prop
 a3:AV→AV→Bool→AV→Int→Int→AV→Int→Int→H→Prop
 a4:AV→Bool→Bool→H→Prop
 a5:AV→AV→Bool→Bool→AV→Bool→H→Prop
def Amt(c:CF)(_k:KV)(J:J86)(v_0:AV)(h:H):Prop:=
 Hp.Cs h Aaj fun p1 h2=>
 Hp.Cs h2 Xs fun p3 h4=>
 oK (Ag v_0 h4) fun v5 h6=>
 Ac 2 v5 fun v7=>
 ld1 v7 h6 fun v8=>
 asI .i64 v8 fun n9=>
 oK (Ag v_0 h6) fun v10 h11=>
 Ac 1 v10 fun v12=>
 ld1 v12 h11 fun v13=>
 Cz v13 fun m14=>
 Ay (fun k15=>gate false (Ef (Int.ofNat m14) n9)
 (oK (Ag v_0 h11) fun v18 h19=>
 Ac 1 v18 fun v20=>
 ld1 v20 h19 fun v21=>
 oK (Ag v_0 h19) fun v22 h23=>
 Ac 2 v22 fun v24=>
 ld1 v24 h23 fun v25=>
 asI .i64 v25 fun n26=>
 Ce n26 fun m27=>
 Cc 3 m27 v21 fun v28=>
 Ac 0 v28 fun v29=>
 ld1 v29 h23 fun v30=>
 asI .u8 v30 fun n31=>
 k15 (Bx n31 (Int.ofNat 10)) h23)
 (k15 true h11)) fun b17 h16=>
 cnd b17
 (J.a4 (.ptr p1 0) false false h16)
 (oK (Ag v_0 h16) fun v32 h33=>
 Ac 1 v32 fun v34=>
 ld1 v34 h33 fun v35=>
 oK (Ag v_0 h33) fun v36 h37=>
 Ac 2 v36 fun v38=>
 ld1 v38 h37 fun v39=>
 asI .i64 v39 fun n40=>
 Ce n40 fun m41=>
 Cc 3 m41 v35 fun v42=>
 Ac 0 v42 fun v43=>
 ld1 v43 h37 fun v44=>
 asI .u8 v44 fun n45=>
 c (.func 118) [(.int .u8 n45)] h37 fun v46 h47=>
 asB v46 fun b48=>
 cnd b48
 (oK (Ag v_0 h47) fun v49 h50=>
 Ac 2 v49 fun v51=>
 ld1 v51 h50 fun v52=>
 asI .i64 v52 fun n53=>
 fI (wrap .i64 (Bq n53 (Int.ofNat 1))) fun n54=>
 oK (Ag v_0 h50) fun v55 h56=>
 Ac 2 v55 fun v57=>
 st1 v57 (.int .i64 n54) h56 fun h58=>
 oK (Ag v_0 h58) fun v59 h60=>
 Ac 4 v59 fun v61=>
 st1 v61 (.bool true) h60 fun h62=>
 J.a2 v_0 (.ptr p1 0) false false (.ptr p3 0) h62)
 (c (.func 119) [v_0] h47 fun v63 h64=>
 ext 0 v63 fun v65=>
 asB v65 fun b66=>
 ext 1 v63 fun v67=>
 asB v67 fun b68=>
 J.a5 v_0 (.ptr p1 0) b68 false (.ptr p3 0) b66 h64))
def Ams(c:CF)(k:KV)(J:J86)(v_0 v_2:AV)(b_3:Bool)(v_5:AV)(n_7 n_8:Int)(v_86:AV)(n_87 n_88:Int)(h:H):Prop:=
 cnd (Ca n_88 n_87)
 (Ce n_88 fun m69=>
 Cc 3 m69 v_86 fun v70=>
 ldn 3 v70 h fun v71=>
 Hp.Cs h Ut fun p72 h73=>
 stn 3 (.ptr p72 0) v71 h73 fun h74=>
 Ac 0 (.ptr p72 0) fun v75=>
 ld1 v75 h74 fun v76=>
 asI .u8 v76 fun n77=>
 c (.func 68) [v_5,(.int .u8 n77)] h74 fun _ h79=>
 fI (wrap .i64 (Bq n_88 (Int.ofNat 1))) fun n80=>
 J.a1 v_0 v_2 b_3 v_5 n_7 n_8 v_86 n_87 n80 h79)
 (oK (Ag v_0 h) fun v81 h82=>
 Ac 4 v81 fun v83=>
 ld1 v83 h82 fun v84=>
 asB v84 fun b85=>
 oK (Ag v_0 h82) fun v86 h87=>
 Ac 2 v86 fun v88=>
 ld1 v88 h87 fun v89=>
 asI .i64 v89 fun n90=>
 oK (Ag v_0 h87) fun v91 h92=>
 Ac 2 v91 fun v93=>
 ld1 v93 h92 fun v94=>
 asI .i64 v94 fun n95=>
 fI (wrap .i64 (Bq n95 n_8)) fun n96=>
 c (.func 69) [v_5] h92 fun v97 h98=>
 asS v97 fun l99 A2b=>
 ld1 v83 h98 fun v101=>
 asB v101 fun b102=>
 eqC (.bool b102) (.bool b85)<|
 ld1 v88 h98 fun v103=>
 asI .i64 v103 fun n104=>
 eqC (.int .i64 n104) (.int .i64 n90)<|
 ld1 v93 h98 fun v105=>
 asI .i64 v105 fun n106=>
 eqC (.int .i64 n106) (.int .i64 n95)<|
 c (.func 121) [v_0,(.int .i64 n90),(.int .i64 n96)] h98 fun v107 h108=>
 ld1 v83 h108 fun v109=>
 asB v109 fun b110=>
 eqC (.bool b110) (.bool b85)<|
 oK (Ax env (env.ty 44) [(0,(.int .i64 n_7)),(1,(.str l99 A2b)),(2,(.bool b85)),(3,v107)] h108) fun v111 h112=>
 stn 8 v_2 v111 h112 fun h113=>
 oK (Ag v_0 h113) fun v114 h115=>
 Ac 2 v114 fun v116=>
 ld1 v116 h115 fun v117=>
 asI .i64 v117 fun n118=>
 fI (wrap .i64 (Bq n118 n_8)) fun n119=>
 oK (Ag v_0 h115) fun v120 h121=>
 Ac 2 v120 fun v122=>
 st1 v122 (.int .i64 n119) h121 fun h123=>
 oK (Ag v_0 h123) fun v124 h125=>
 Ac 4 v124 fun v126=>
 st1 v126 (.bool false) h125 fun h127=>
 ldn 8 v_2 h127 fun v128=>
 stn 8 v_2 v128 h127 fun h129=>
 ldn 8 v_2 h129 fun v130=>
 k (.tuple [v130,(.bool b_3),(.bool true)]) h129)
def Amr(c:CF)(_k:KV)(J:J86)(v_0 v_2:AV)(b_3 b_4:Bool)(v_5:AV)(h:H):Prop:=
 oK (Ag v_0 h) fun v131 h132=>
 Ac 2 v131 fun v133=>
 ld1 v133 h132 fun v134=>
 asI .i64 v134 fun n135=>
 oK (Ag v_0 h132) fun v136 h137=>
 Ac 1 v136 fun v138=>
 ld1 v138 h137 fun v139=>
 Cz v139 fun m140=>
 Ay (fun k141=>gate false (Ef (Int.ofNat m140) n135)
 (oK (Ag v_0 h137) fun v144 h145=>
 Ac 1 v144 fun v146=>
 ld1 v146 h145 fun v147=>
 oK (Ag v_0 h145) fun v148 h149=>
 Ac 2 v148 fun v150=>
 ld1 v150 h149 fun v151=>
 asI .i64 v151 fun n152=>
 Ce n152 fun m153=>
 Cc 3 m153 v147 fun v154=>
 Ac 0 v154 fun v155=>
 ld1 v155 h149 fun v156=>
 asI .u8 v156 fun n157=>
 k141 (Bx n157 (Int.ofNat 10)) h149)
 (k141 true h137)) fun b143 h142=>
 cnd b143
 (J.a4 v_2 b_3 b_4 h142)
 (oK (Ag v_0 h142) fun v158 h159=>
 Ac 1 v158 fun v160=>
 ld1 v160 h159 fun v161=>
 oK (Ag v_0 h159) fun v162 h163=>
 Ac 2 v162 fun v164=>
 ld1 v164 h163 fun v165=>
 asI .i64 v165 fun n166=>
 Ce n166 fun m167=>
 Cc 3 m167 v161 fun v168=>
 Ac 0 v168 fun v169=>
 ld1 v169 h163 fun v170=>
 asI .u8 v170 fun n171=>
 c (.func 118) [(.int .u8 n171)] h163 fun v172 h173=>
 asB v172 fun b174=>
 cnd b174
 (oK (Ag v_0 h173) fun v175 h176=>
 Ac 2 v175 fun v177=>
 ld1 v177 h176 fun v178=>
 asI .i64 v178 fun n179=>
 fI (wrap .i64 (Bq n179 (Int.ofNat 1))) fun n180=>
 oK (Ag v_0 h176) fun v181 h182=>
 Ac 2 v181 fun v183=>
 st1 v183 (.int .i64 n180) h182 fun h184=>
 oK (Ag v_0 h184) fun v185 h186=>
 Ac 4 v185 fun v187=>
 st1 v187 (.bool true) h186 fun h188=>
 J.a2 v_0 v_2 b_3 b_4 v_5 h188)
 (c (.func 119) [v_0] h173 fun v189 h190=>
 ext 0 v189 fun v191=>
 asB v191 fun b192=>
 ext 1 v189 fun v193=>
 asB v193 fun b194=>
 cnd b192
 (oK (Ag v_0 h190) fun v195 h196=>
 Ac 4 v195 fun v197=>
 st1 v197 (.bool true) h196 fun h198=>
 J.a2 v_0 v_2 b194 b_4 v_5 h198)
 (c (.func 120) [v_0] h190 fun v199 h200=>
 ext 0 v199 fun v201=>
 asI .i64 v201 fun n202=>
 ext 1 v199 fun v203=>
 asI .i64 v203 fun n204=>
 oK (Ag v_0 h200) fun v205 h206=>
 Ac 1 v205 fun v207=>
 ld1 v207 h206 fun v208=>
 oK (Ag v_0 h206) fun v209 h210=>
 Ac 2 v209 fun v211=>
 ld1 v211 h210 fun v212=>
 asI .i64 v212 fun n213=>
 oK (Ag v_0 h210) fun v214 h215=>
 Ac 2 v214 fun v216=>
 ld1 v216 h215 fun v217=>
 asI .i64 v217 fun n218=>
 fI (wrap .i64 (Bq n218 n204)) fun n219=>
 oK (slice3 env h215 160 v208 (some (Bp (.int .i64 n213))) (some (Bp (.int .i64 n219))) none) fun v220 h221=>
 Cz v220 fun m222=>
 J.a3 v_0 v_2 b194 v_5 n202 n204 v220 (Int.ofNat m222) (Int.ofNat 0) h221)))
def Amq(c:CF)(k:KV)(J:J86)(v_0 v_2:AV)(b_3:Bool)(v_5:AV)(n_7 n_8:Int)(v_86:AV)(n_87 n_88:Int)(h:H):Prop:=
 cnd (Ca n_88 n_87)
 (Ce n_88 fun m223=>
 Cc 3 m223 v_86 fun v224=>
 ldn 3 v224 h fun v225=>
 Hp.Cs h Ut fun p226 h227=>
 stn 3 (.ptr p226 0) v225 h227 fun h228=>
 Ac 0 (.ptr p226 0) fun v229=>
 ld1 v229 h228 fun v230=>
 asI .u8 v230 fun n231=>
 c (.func 68) [v_5,(.int .u8 n231)] h228 fun _ h233=>
 fI (wrap .i64 (Bq n_88 (Int.ofNat 1))) fun n234=>
 J.a3 v_0 v_2 b_3 v_5 n_7 n_8 v_86 n_87 n234 h233)
 (oK (Ag v_0 h) fun v235 h236=>
 Ac 4 v235 fun v237=>
 ld1 v237 h236 fun v238=>
 asB v238 fun b239=>
 oK (Ag v_0 h236) fun v240 h241=>
 Ac 2 v240 fun v242=>
 ld1 v242 h241 fun v243=>
 asI .i64 v243 fun n244=>
 oK (Ag v_0 h241) fun v245 h246=>
 Ac 2 v245 fun v247=>
 ld1 v247 h246 fun v248=>
 asI .i64 v248 fun n249=>
 fI (wrap .i64 (Bq n249 n_8)) fun n250=>
 c (.func 69) [v_5] h246 fun v251 h252=>
 asS v251 fun l253 c254=>
 ld1 v237 h252 fun v255=>
 asB v255 fun b256=>
 eqC (.bool b256) (.bool b239)<|
 ld1 v242 h252 fun v257=>
 asI .i64 v257 fun n258=>
 eqC (.int .i64 n258) (.int .i64 n244)<|
 ld1 v247 h252 fun v259=>
 asI .i64 v259 fun n260=>
 eqC (.int .i64 n260) (.int .i64 n249)<|
 c (.func 121) [v_0,(.int .i64 n244),(.int .i64 n250)] h252 fun v261 h262=>
 ld1 v237 h262 fun v263=>
 asB v263 fun b264=>
 eqC (.bool b264) (.bool b239)<|
 oK (Ax env (env.ty 44) [(0,(.int .i64 n_7)),(1,(.str l253 c254)),(2,(.bool b239)),(3,v261)] h262) fun v265 h266=>
 stn 8 v_2 v265 h266 fun h267=>
 oK (Ag v_0 h267) fun v268 h269=>
 Ac 2 v268 fun v270=>
 ld1 v270 h269 fun v271=>
 asI .i64 v271 fun n272=>
 fI (wrap .i64 (Bq n272 n_8)) fun n273=>
 oK (Ag v_0 h269) fun v274 h275=>
 Ac 2 v274 fun v276=>
 st1 v276 (.int .i64 n273) h275 fun h277=>
 oK (Ag v_0 h277) fun v278 h279=>
 Ac 4 v278 fun v280=>
 st1 v280 (.bool false) h279 fun h281=>
 ldn 8 v_2 h281 fun v282=>
 stn 8 v_2 v282 h281 fun h283=>
 ldn 8 v_2 h283 fun v284=>
 k (.tuple [v284,(.bool b_3),(.bool true)]) h283)
def Ahk(_c:CF)(k:KV)(_J:J86)(v_2:AV)(b_3 b_4:Bool)(h:H):Prop:=
 ldn 8 v_2 h fun v285=>
 stn 8 v_2 v285 h fun h286=>
 ldn 8 v_2 h286 fun v287=>
 k (.tuple [v287,(.bool b_3),(.bool b_4)]) h286
def Amp(c:CF)(_k:KV)(J:J86)(v_0 v_2:AV)(b_3 b_4:Bool)(v_5:AV)(b_6:Bool)(h:H):Prop:=
 cnd b_6
 (oK (Ag v_0 h) fun v288 h289=>
 Ac 4 v288 fun v290=>
 st1 v290 (.bool true) h289 fun h291=>
 J.a2 v_0 v_2 b_3 b_4 v_5 h291)
 (c (.func 120) [v_0] h fun v292 h293=>
 ext 0 v292 fun v294=>
 asI .i64 v294 fun n295=>
 ext 1 v292 fun v296=>
 asI .i64 v296 fun n297=>
 oK (Ag v_0 h293) fun v298 h299=>
 Ac 1 v298 fun v300=>
 ld1 v300 h299 fun v301=>
 oK (Ag v_0 h299) fun v302 h303=>
 Ac 2 v302 fun v304=>
 ld1 v304 h303 fun v305=>
 asI .i64 v305 fun n306=>
 oK (Ag v_0 h303) fun v307 h308=>
 Ac 2 v307 fun v309=>
 ld1 v309 h308 fun v310=>
 asI .i64 v310 fun n311=>
 fI (wrap .i64 (Bq n311 n297)) fun n312=>
 oK (slice3 env h308 160 v301 (some (Bp (.int .i64 n306))) (some (Bp (.int .i64 n312))) none) fun v313 h314=>
 Cz v313 fun m315=>
 J.a1 v_0 v_2 b_3 v_5 n295 n297 v313 (Int.ofNat m315) (Int.ofNat 0) h314)
def z86:J86:=⟨fun _ _=>False,fun _ _ _ _ _ _ _ _ _ _=>False,fun _ _ _ _ _ _=>False,fun _ _ _ _ _ _ _ _ _ _=>False,fun _ _ _ _=>False,fun _ _ _ _ _ _ _=>False⟩
def r86(c:CF)(k:KV)(m:Nat):J86:=Nat.rec z86 (fun _ J=>⟨Amt c k J,Ams c k J,Amr c k J,Amq c k J,Ahk c k J,Amp c k J⟩) m
def f86(J:J86):Jump:=fun L f h=>match L with
 |0=>J.a0 (f 0) h
 |1=>asB (f 3) fun b_3=>asI .i64 (f 7) fun n_7=>asI .i64 (f 8) fun n_8=>asI .i64 (f 87) fun n_87=>asI .i64 (f 88) fun n_88=>J.a1 (f 0) (f 2) b_3 (f 5) n_7 n_8 (f 86) n_87 n_88 h
 |2=>asB (f 3) fun b_3=>asB (f 4) fun b_4=>J.a2 (f 0) (f 2) b_3 b_4 (f 5) h
 |3=>asB (f 3) fun b_3=>asI .i64 (f 7) fun n_7=>asI .i64 (f 8) fun n_8=>asI .i64 (f 87) fun n_87=>asI .i64 (f 88) fun n_88=>J.a3 (f 0) (f 2) b_3 (f 5) n_7 n_8 (f 86) n_87 n_88 h
 |4=>asB (f 3) fun b_3=>asB (f 4) fun b_4=>J.a4 (f 2) b_3 b_4 h
 |5=>asB (f 3) fun b_3=>asB (f 4) fun b_4=>asB (f 6) fun b_6=>J.a5 (f 0) (f 2) b_3 b_4 (f 5) b_6 h
 |_=>False
def u86:Bb:=[(.root,0),((.l (.r (.l (.r (.r (.r (.r (.r (.r (.r (.r (.l (.r .root))))))))))))),1),((.lab (.r .root) 1),2),((.l (.r (.l (.r (.r (.r (.r (.r (.lab (.r .root) 1))))))))),3),((.lab (.r .root) 0),4),((.r (.l (.r (.r (.r (.r (.r (.r (.l (.r .root)))))))))),5)]
def d87:Code:=Option.rec .skip (fun c=>c) Tryz.f87.body
def q87:Aq:=[]
def u87:Bb:=[(.root,0)]
def d88:Code:=Option.rec .skip (fun c=>c) Tryz.f88.body
def q88:Aq:=[(1,[0,1,2,3,4,5,6,7,8,9,10,11,12,13]),(2,[0,1,2,3,4,5,6,7,8,9,10])]
structure J88 where
 a0:AV→AV→H→Prop
def Amo(c:CF)(k:KV)(_J:J88)(v_0 v_1:AV)(h:H):Prop:=
 asG v_1 fun g1=>
 chk (Nat.ble 1 (len g1))<|
 Hp.Cs h (rowOf 124 g1) fun p2 h3=>
 oK (Ag v_0 h3) fun v4 h5=>
 Ac 1 v4 fun v6=>
 ld1 v6 h5 fun v7=>
 asB v7 fun b8=>
 Ay (fun k9=>gate false (Ci b8)
 (oK (Ag v_0 h5) fun v12 h13=>
 Ac 0 v12 fun v14=>
 ld1 v14 h13 fun v15=>
 Ac 0 (.ptr p2 0) fun v16=>
 ldn 8 v16 h13 fun v17=>
 c (.func 123) [v15,(.int .i64 (Int.ofNat 1)),v17] h13 fun v18 h19=>
 asB v18 fun b20=>
 k9 b20 h19)
 (k9 true h5)) fun b11 h10=>
 cnd b11
 (oK (Ag v_0 h10) fun v21 h22=>
 Ac 3 v21 fun v23=>
 ld1 v23 h22 fun v24=>
 ldn 9 (.ptr p2 0) h22 fun v25=>
 oK (Ap env 116 (fun e ei=>Ak 1 [(0,v25)] h22 e ei)) fun v26 h27=>
 ld1 v23 h27 fun v28=>
 eqC v28 v24<|
 oK (Ar env .append [116,116] [v24,v26] h27) fun v29 h30=>
 oK (Ag v_0 h30) fun v31 h32=>
 Ac 3 v31 fun v33=>
 st1 v33 v29 h32 fun h34=>
 k (.tuple []) h34)
 (k (.tuple []) h10)
def z88:J88:=⟨fun _ _ _=>False⟩
def r88(c:CF)(k:KV)(m:Nat):J88:=Nat.rec z88 (fun _ J=>⟨Amo c k J⟩) m
def f88(J:J88):Jump:=fun L f h=>match L with
 |0=>J.a0 (f 0) (f 1) h
 |_=>False
def u88:Bb:=[(.root,0)]
def d89:Code:=Option.rec .skip (fun c=>c) Tryz.f89.body
def q89:Aq:=[(4,[0,1,2,3,4,5,6,7,12,8,9,10,11,13,14,15])]
structure J89 where
 a0:AV→AV→H→Prop
 a1:AV→AV→H→Prop
def Amn(c:CF)(k:KV)(J:J89)(v_0 v_1:AV)(h:H):Prop:=
 asG v_1 fun g1=>
 chk (Nat.ble 1 (len g1))<|
 Hp.Cs h (rowOf 44 g1) fun p2 h3=>
 Hp.Cs h3 Aaj fun p4 h5=>
 Ac 1 (.ptr p2 0) fun v6=>
 ld1 v6 h5 fun v7=>
 asS v7 fun l8 c9=>
 cnd (Dv l8 c9 8 6872287758930173791)
 (oK (Ag v_0 h5) fun v10 h11=>
 Ac 0 v10 fun v12=>
 ld1 v12 h11 fun v13=>
 oK (Ag v13 h11) fun v14 h15=>
 Ac 1 v14 fun v16=>
 ldn 3 v16 h15 fun v17=>
 ldn 8 (.ptr p2 0) h15 fun v18=>
 Ac 0 (.ptr p2 0) fun v19=>
 c (.func 22) [v18] h15 fun v20 h21=>
 ld1 v12 h21 fun v22=>
 eqC v22 v13<|
 ldn 3 v16 h21 fun v23=>
 eqC v23 v17<|
 Bfk 1 v20 fun v24=>
 asI .i64 v24 fun n25=>
 c (.func 125) [v17,(.int .i64 n25)] h21 fun v26 h27=>
 asI .i64 v26 fun n28=>
 c (.func 124) [(.int .i64 n28)] h27 fun v29 h30=>
 asS v29 fun l31 c32=>
 st1 v19 (.int .i64 (Int.ofNat 2)) h30 fun h33=>
 Ac 1 (.ptr p2 0) fun v34=>
 st1 v34 (.str l31 c32) h33 fun h35=>
 J.a1 (.ptr p2 0) (.ptr p4 0) h35)
 (cnd (Dv l8 c9 8 6872287750339845983)
 (oK (Ag v_0 h5) fun v36 h37=>
 Ac 0 v36 fun v38=>
 ld1 v38 h37 fun v39=>
 oK (Ag v39 h37) fun v40 h41=>
 Ac 1 v40 fun v42=>
 Ac 0 v42 fun v43=>
 ld1 v43 h41 fun v44=>
 asS v44 fun l45 c46=>
 c (.func 126) [(.str l45 c46)] h41 fun v47 h48=>
 asS v47 fun l49 c50=>
 Ac 0 (.ptr p2 0) fun v51=>
 st1 v51 (.int .i64 (Int.ofNat 4)) h48 fun h52=>
 Ac 1 (.ptr p2 0) fun v53=>
 st1 v53 (.str l49 c50) h52 fun h54=>
 J.a1 (.ptr p2 0) (.ptr p4 0) h54)
 (ldn 8 (.ptr p2 0) h5 fun v55=>
 stn 8 (.ptr p4 0) v55 h5 fun h56=>
 ldn 8 (.ptr p4 0) h56 fun v57=>
 k (.tuple [v57,(.bool false)]) h56))
def A20(_c:CF)(k:KV)(_J:J89)(v_3 v_4:AV)(h:H):Prop:=
 Ac 6 v_3 fun v58=>
 st1 v58 (.bool true) h fun h59=>
 ldn 8 v_3 h59 fun v60=>
 stn 8 v_4 v60 h59 fun h61=>
 ldn 8 v_4 h61 fun v62=>
 k (.tuple [v62,(.bool true)]) h61
def z89:J89:=⟨fun _ _ _=>False,fun _ _ _=>False⟩
def r89(c:CF)(k:KV)(m:Nat):J89:=Nat.rec z89 (fun _ J=>⟨Amn c k J,A20 c k J⟩) m
def f89(J:J89):Jump:=fun L f h=>match L with
 |0=>J.a0 (f 0) (f 1) h
 |1=>J.a1 (f 3) (f 4) h
 |_=>False
def u89:Bb:=[(.root,0),((.r (.r .root)),1)]
def d90:Code:=Option.rec .skip (fun c=>c) Tryz.f90.body
def q90:Aq:=[]
structure J90 where
 a0:AV→Nat→Nat→H→Prop
def Amm(_c:CF)(k:KV)(_J:J90)(v_0:AV)(l_1 c_1:Nat)(h:H):Prop:=
 oV (Hh env .eql 91 v_0 .Cm) fun v1=>
 asB v1 fun b2=>
 cnd b2
 (k .Cm h)
 (oK (Ag v_0 h) fun v3 h4=>
 Ac 0 v3 fun v5=>
 ld1 v5 h4 fun v6=>
 oK (Db env 136 v6 (.str l_1 c_1) false h4) fun v7 h8=>
 k v7 h8)
def z90:J90:=⟨fun _ _ _ _=>False⟩
def r90(c:CF)(k:KV)(m:Nat):J90:=Nat.rec z90 (fun _ J=>⟨Amm c k J⟩) m
def f90(J:J90):Jump:=fun L f h=>match L with
 |0=>asS (f 1) fun l_1 c_1=>J.a0 (f 0) l_1 c_1 h
 |_=>False
def u90:Bb:=[(.root,0)]
def d91:Code:=Option.rec .skip (fun c=>c) Tryz.f91.body
def q91:Aq:=[]
def u91:Bb:=[(.root,0)]
def d93:Code:=Option.rec .skip (fun c=>c) Tryz.f93.body
def q93:Aq:=[(1,[0,1,2,3,4,5,6,7,8,9,10,11,12,13,14,15,16,17,18,19,20,21,22,23]),(2,[0,1,2,3,4,5,8,9,6,7,10,11]),(3,[0,1,3,5,6,7,8,9,10,11,12,13,14,15,16,17,18,2,4,19,20,21,22,23,24]),(4,[0,1,2,3,4,5,6,7,8,9,10,11,12,13,14,15]),(5,[0,1,2,3,4,5,6,7,8,9]),(12,[0,1,2,3,4,5,6,7,8,9,10,11,12,13]),(14,[0,1,2,3,4,5,6,7,8,9,10,11,12,13]),(15,[0,1,2,3,4,5,6,7,8,9,10]),(4294967294,[6,9,10,11]),(4294967295,[167])]
def Bmv:LpS:=A7w q93 (Pk d93 (.l (.r (.r (.r (.r (.r (.r (.r (.r .root))))))))))
def u93:Bb:=[(.root,0),((.r (.r (.r (.r .root)))),1)]
def d94:Code:=Option.rec .skip (fun c=>c) Tryz.f94.body
def q94:Aq:=[]
def u94:Bb:=[(.root,0)]
def d95:Code:=Option.rec .skip (fun c=>c) Tryz.f95.body
def q95:Aq:=[]
structure J95 where
 a0:Nat→Nat→Int→H→Prop
 a1:Nat→Nat→Int→AV→H→Prop
def Aml(c:CF)(k:KV)(J:J95)(l_0 c_0:Nat)(n_1:Int)(h:H):Prop:=
 Hp.Cs h Ut fun p1 h2=>
 Ce n_1 fun m3=>
 No l_0 c_0 m3 l_0 fun l4 c5=>
 c (.func 141) [(.str l4 c5),(.str 2 16191)] h2 fun v6 h7=>
 asB v6 fun b8=>
 Ay (fun k9=>gate true b8
 (fI (wrap .i64 (Bq n_1 (Int.ofNat 2))) fun n12=>
 k9 (Ca n12 (Int.ofNat l_0)) h7)
 (k9 false h7)) fun b11 h10=>
 cnd b11
 (fI (wrap .i64 (Bq n_1 (Int.ofNat 2))) fun n13=>
 Ce n13 fun m14=>
 Ij l_0 c_0 m14 fun m15=>
 c (.func 142) [(.int .u8 (Int.ofNat m15))] h10 fun v16 h17=>
 ext 0 v16 fun v18=>
 asI .u8 v18 fun n19=>
 ext 1 v16 fun v20=>
 asB v20 fun b21=>
 cnd b21
 (fI (wrap .i64 (Bq n_1 (Int.ofNat 3))) fun n22=>
 oK (Ax env (env.ty 165) [(0,(.int .u8 n19)),(1,(.int .i64 n_1)),(2,(.int .i64 n22))] h17) fun v23 h24=>
 stn 3 (.ptr p1 0) v23 h24 fun h25=>
 ldn 3 (.ptr p1 0) h25 fun v26=>
 k v26 h25)
 (J.a1 l_0 c_0 n_1 (.ptr p1 0) h17))
 (J.a1 l_0 c_0 n_1 (.ptr p1 0) h10)
def Amk(_c:CF)(k:KV)(_J:J95)(l_0 c_0:Nat)(n_1:Int)(v_4:AV)(h:H):Prop:=
 Ce n_1 fun m27=>
 Ij l_0 c_0 m27 fun m28=>
 fI (wrap .i64 (Bq n_1 (Int.ofNat 1))) fun n29=>
 oK (Ax env (env.ty 165) [(0,(.int .u8 (Int.ofNat m28))),(1,(.int .i64 n_1)),(2,(.int .i64 n29))] h) fun v30 h31=>
 stn 3 v_4 v30 h31 fun h32=>
 ldn 3 v_4 h32 fun v33=>
 k v33 h32
def z95:J95:=⟨fun _ _ _ _=>False,fun _ _ _ _ _=>False⟩
def r95(c:CF)(k:KV)(m:Nat):J95:=Nat.rec z95 (fun _ J=>⟨Aml c k J,Amk c k J⟩) m
def f95(J:J95):Jump:=fun L f h=>match L with
 |0=>asS (f 0) fun l_0 c_0=>asI .i64 (f 1) fun n_1=>J.a0 l_0 c_0 n_1 h
 |1=>asS (f 0) fun l_0 c_0=>asI .i64 (f 1) fun n_1=>J.a1 l_0 c_0 n_1 (f 4) h
 |_=>False
def u95:Bb:=[(.root,0),((.r (.r .root)),1)]
def d96:Code:=Option.rec .skip (fun c=>c) Tryz.f96.body
def q96:Aq:=[]
structure J96 where
 a0:AV→H→Prop
def Amj(c:CF)(k:KV)(_J:J96)(v_0:AV)(h:H):Prop:=
 oK (Ag v_0 h) fun v1 h2=>
 Ac 0 v1 fun v3=>
 ld1 v3 h2 fun v4=>
 oV (Hh env .eql 181 v4 .Cm) fun v5=>
 asB v5 fun b6=>
 cnd b6
 (oK (Ia env h2 181 276 v_0) fun v7 h8=>
 c (.func 143) [v7] h8 fun v9 h10=>
 oK (Ia env h10 276 181 v9) fun v11 h12=>
 oK (Ag v_0 h12) fun v13 h14=>
 Ac 0 v13 fun v15=>
 st1 v15 v11 h14 fun h16=>
 k (.tuple []) h16)
 (oK (Ag v_0 h2) fun v17 h18=>
 Ac 0 v17 fun v19=>
 ld1 v19 h18 fun v20=>
 oV (Hh env .neq 181 v20 v_0) fun v21=>
 asB v21 fun b22=>
 cnd b22
 (False)
 (k (.tuple []) h18))
def z96:J96:=⟨fun _ _=>False⟩
def r96(c:CF)(k:KV)(m:Nat):J96:=Nat.rec z96 (fun _ J=>⟨Amj c k J⟩) m
def f96(J:J96):Jump:=fun L f h=>match L with
 |0=>J.a0 (f 0) h
 |_=>False
def u96:Bb:=[(.root,0)]
def d97:Code:=Option.rec .skip (fun c=>c) Tryz.f97.body
def q97:Aq:=[]
structure J97 where
 a0:AV→AV→AV→AV→H→Prop
 a1:AV→AV→H→Prop
 a2:AV→AV→AV→AV→H→Prop
def Ami(_c:CF)(_k:KV)(J:J97)(v_0 v_1:AV)(v_2 v_3:AV)(h:H):Prop:=
 ld1 v_1 h fun v1=>
 asS v1 fun l2 _=>
 cnd (Bx (Int.ofNat l2) (Int.ofNat 0))
 (J.a1 v_0 v_2 h)
 (J.a2 v_0 v_1 v_2 v_3 h)
def A2z(c:CF)(k:KV)(J:J97)(v_0 v_2:AV)(h:H):Prop:=
 ld1 v_2 h fun v4=>
 asS v4 fun l5 _=>
 cnd (Ca (Int.ofNat 0) (Int.ofNat l5))
 (ld1 v_2 h fun v7=>
 asS v7 fun l8 c9=>
 c (.func 98) [(.str l8 c9)] h fun v10 h11=>
 ext 0 v10 fun v12=>
 asI .i32 v12 fun _=>
 ext 1 v10 fun v14=>
 asI .i64 v14 fun n15=>
 ld1 v_2 h11 fun v16=>
 asS v16 fun l17 c18=>
 Ce n15 fun m19=>
 No l17 c18 0 m19 fun l20 c21=>
 Mq (CP env) c v_0 [(.str l20 c21)] h11 fun v22 h23=>
 asB v22 fun b24=>
 cnd (Ci b24)
 (k (.tuple []) h23)
 (ld1 v_2 h23 fun v25=>
 asS v25 fun l26 c27=>
 Ce n15 fun m28=>
 No l26 c27 m28 l26 fun l29 c30=>
 st1 v_2 (.str l29 c30) h23 fun h31=>
 J.a1 v_0 v_2 h31))
 (k (.tuple []) h)
def Amh(c:CF)(k:KV)(J:J97)(v_0 v_1:AV)(v_2 v_3:AV)(h:H):Prop:=
 ld1 v_2 h fun v32=>
 asS v32 fun l33 c34=>
 ld1 v_1 h fun v35=>
 asS v35 fun l36 c37=>
 c (.func 99) [(.str l33 c34),(.str l36 c37)] h fun v38 h39=>
 asI .i64 v38 fun n40=>
 cnd (Ca n40 (Int.ofNat 0))
 (ld1 v_2 h39 fun v41=>
 asS v41 fun l42 c43=>
 Mq (CP env) c v_0 [(.str l42 c43)] h39 fun v44 h45=>
 asB v44 fun _=>
 k (.tuple []) h45)
 (ld1 v_2 h39 fun v47=>
 asS v47 fun l48 c49=>
 ld1 v_3 h39 fun v50=>
 asI .i64 v50 fun n51=>
 fI (wrap .i64 (Bq n40 n51)) fun n52=>
 Ce n52 fun m53=>
 No l48 c49 0 m53 fun l54 c55=>
 Mq (CP env) c v_0 [(.str l54 c55)] h39 fun v56 h57=>
 asB v56 fun b58=>
 cnd (Ci b58)
 (k (.tuple []) h57)
 (ld1 v_2 h57 fun v59=>
 asS v59 fun l60 c61=>
 ld1 v_1 h57 fun v62=>
 asS v62 fun l63 _=>
 fI (wrap .i64 (Bq n40 (Int.ofNat l63))) fun n65=>
 Ce n65 fun m66=>
 No l60 c61 m66 l60 fun l67 c68=>
 st1 v_2 (.str l67 c68) h57 fun h69=>
 J.a2 v_0 v_1 v_2 v_3 h69))
def z97:J97:=⟨fun _ _ _ _ _=>False,fun _ _ _=>False,fun _ _ _ _ _=>False⟩
def r97(c:CF)(k:KV)(m:Nat):J97:=Nat.rec z97 (fun _ J=>⟨Ami c k J,A2z c k J,Amh c k J⟩) m
def f97(J:J97):Jump:=fun L f h=>match L with
 |0=>J.a0 (f 0) (f 1) (f 2) (f 3) h
 |1=>J.a1 (f 0) (f 2) h
 |2=>J.a2 (f 0) (f 1) (f 2) (f 3) h
 |_=>False
def u97:Bb:=[(.root,0),((.l (.l (.l (.r (.l .root))))),1),((.l (.l (.r .root))),2)]
def d99:Code:=Option.rec .skip (fun c=>c) Tryz.f99.body
def q99:Aq:=[]
structure J99 where
 a0:Nat→Nat→Nat→Nat→H→Prop
def Amg(c:CF)(k:KV)(_J:J99)(l_0 c_0:Nat)(l_1 c_1:Nat)(h:H):Prop:=
 c (.func 145) [(.str l_0 c_0),(.str l_1 c_1)] h fun v1 h2=>
 asI .i64 v1 fun n3=>
 k (.int .i64 n3) h2
def z99:J99:=⟨fun _ _ _ _ _=>False⟩
def r99(c:CF)(k:KV)(m:Nat):J99:=Nat.rec z99 (fun _ J=>⟨Amg c k J⟩) m
def f99(J:J99):Jump:=fun L f h=>match L with
 |0=>asS (f 0) fun l_0 c_0=>asS (f 1) fun l_1 c_1=>J.a0 l_0 c_0 l_1 c_1 h
 |_=>False
def u99:Bb:=[(.root,0)]
def d100:Code:=Option.rec .skip (fun c=>c) Tryz.f100.body
def Bd1:Aq:=[]
structure Ay5 where
 a0:AV→H→Prop
def Afa(_c:CF)(k:KV)(_J:Ay5)(v_0:AV)(h:H):Prop:=
 oV (Hh env .eql 80 v_0 .Cm) fun v1=>
 asB v1 fun b2=>
 cnd b2
 (k (.int .i64 (Int.ofNat 0)) h)
 (oK (Ag v_0 h) fun v3 h4=>
 Ac 4 v3 fun v5=>
 ld1 v5 h4 fun v6=>
 asI .i64 v6 fun n7=>
 k (.int .i64 n7) h4)
def Bk3:Ay5:=⟨fun _ _=>False⟩
def At8(c:CF)(k:KV)(m:Nat):Ay5:=Nat.rec Bk3 (fun _ J=>⟨Afa c k J⟩) m
def f100(J:Ay5):Jump:=fun L f h=>match L with
 |0=>J.a0 (f 0) h
 |_=>False
def Bc8:Bb:=[(.root,0)]
def d102:Code:=Option.rec .skip (fun c=>c) Tryz.f102.body
def Bd0:Aq:=[]
structure Ay4 where
 a0:AV→H→Prop
def Ae9(_c:CF)(k:KV)(_J:Ay4)(v_0:AV)(h:H):Prop:=
 asG v_0 fun g1=>
 chk (Nat.ble 1 (len g1))<|
 Hp.Cs h (rowOf 44 g1) fun p2 h3=>
 Ac 0 (.ptr p2 0) fun v4=>
 ld1 v4 h3 fun v5=>
 asI .i64 v5 fun n6=>
 Ay (fun k7=>gate true (Bx n6 (Int.ofNat 5))
 (Ac 1 (.ptr p2 0) fun v10=>
 ld1 v10 h3 fun v11=>
 asS v11 fun l12 c13=>
 Ay (fun k14=>gate false (Dv l12 c13 1 35)
 (Ac 1 (.ptr p2 0) fun v17=>
 ld1 v17 h3 fun v18=>
 asS v18 fun l19 c20=>
 k14 (Dv l19 c20 2 14885) h3)
 (k14 true h3)) fun b16 h15=>
 k7 b16 h15)
 (k7 false h3)) fun b9 h8=>
 k (.bool b9) h8
def Bk2:Ay4:=⟨fun _ _=>False⟩
def At7(c:CF)(k:KV)(m:Nat):Ay4:=Nat.rec Bk2 (fun _ J=>⟨Ae9 c k J⟩) m
def f102(J:Ay4):Jump:=fun L f h=>match L with
 |0=>J.a0 (f 0) h
 |_=>False
def Bc7:Bb:=[(.root,0)]
def d103:Code:=Option.rec .skip (fun c=>c) Tryz.f103.body
def A7g:Aq:=[]
def A50:Bb:=[(.root,0)]
def d106:Code:=Option.rec .skip (fun c=>c) Tryz.f106.body
def A7f:Aq:=[(10,[0,1,2,3,4,5,6,7,8]),(13,[0,1,2,3,4,5,6,7,8]),(14,[0,1,2,3,4,5,6,7,8,9,10,11,12,13,14,15,17,18,19,20,16,21,22,23,24,25,26,27]),(16,[0,1,2,3,4,5,6,7,8])]
def A5z:Bb:=[(.root,0)]
def d113:Code:=Option.rec .skip (fun c=>c) Tryz.f113.body
def A7e:Aq:=[]
def A5y:Bb:=[(.root,0)]
def d118:Code:=Option.rec .skip (fun c=>c) Tryz.f118.body
def Bdz:Aq:=[]
structure Ay3 where
 a0:Int→H→Prop
def Ae8(_c:CF)(k:KV)(_J:Ay3)(n_0:Int)(h:H):Prop:=
 Ay (fun k1=>gate false (Bx n_0 (Int.ofNat 32))
 (Ay (fun k4=>gate true (Ef (Int.ofNat 9) n_0)
 (k4 (Ef n_0 (Int.ofNat 13)) h)
 (k4 false h)) fun b6 h5=>
 Ay (fun k7=>gate true b6
 (k7 (Ci (Bx n_0 (Int.ofNat 10))) h5)
 (k7 false h5)) fun b9 h8=>
 k1 b9 h8)
 (k1 true h)) fun b3 h2=>
 k (.bool b3) h2
def Bk1:Ay3:=⟨fun _ _=>False⟩
def At6(c:CF)(k:KV)(m:Nat):Ay3:=Nat.rec Bk1 (fun _ J=>⟨Ae8 c k J⟩) m
def f118(J:Ay3):Jump:=fun L f h=>match L with
 |0=>asI .u8 (f 0) fun n_0=>J.a0 n_0 h
 |_=>False
def Bc6:Bb:=[(.root,0)]
def d119:Code:=Option.rec .skip (fun c=>c) Tryz.f119.body
def A0a:Aq:=[(3,[0,1,2,3,4,5,6,7,8,9,10,11,12,13,14,15,16,17,18,19,20,21,22,23]),(9,[0,1,2,3,4,5,6,7,8,9]),(14,[0,1,2,3,4,5,6,7,8,9,10,11,12,13,14,15])]
structure Ag5 where
 a0:AV→H→Prop
 a1:AV→H→Prop
 a2:AV→Int→H→Prop
def Ae7(c:CF)(k:KV)(J:Ag5)(v_0:AV)(h:H):Prop:=
 oK (Ag v_0 h) fun v1 h2=>
 Ac 2 v1 fun v3=>
 ld1 v3 h2 fun v4=>
 asI .i64 v4 fun n5=>
 c (.func 164) [v_0,(.str 2 12079)] h2 fun v6 h7=>
 asB v6 fun b8=>
 cnd b8
 (J.a1 v_0 h7)
 (c (.func 164) [v_0,(.str 2 10799)] h7 fun v9 h10=>
 asB v9 fun b11=>
 cnd (Ci b11)
 (k (.tuple [(.bool false),(.bool false)]) h10)
 (oK (Ag v_0 h10) fun v12 h13=>
 Ac 2 v12 fun v14=>
 ld1 v14 h13 fun v15=>
 asI .i64 v15 fun n16=>
 fI (wrap .i64 (Bq n16 (Int.ofNat 2))) fun n17=>
 oK (Ag v_0 h13) fun v18 h19=>
 Ac 2 v18 fun v20=>
 st1 v20 (.int .i64 n17) h19 fun h21=>
 J.a2 v_0 n5 h21))
def Ae6(_c:CF)(k:KV)(J:Ag5)(v_0:AV)(h:H):Prop:=
 oK (Ag v_0 h) fun v22 h23=>
 Ac 2 v22 fun v24=>
 ld1 v24 h23 fun v25=>
 asI .i64 v25 fun n26=>
 oK (Ag v_0 h23) fun v27 h28=>
 Ac 1 v27 fun v29=>
 ld1 v29 h28 fun v30=>
 Cz v30 fun m31=>
 Ay (fun k32=>gate true (Ca n26 (Int.ofNat m31))
 (oK (Ag v_0 h28) fun v35 h36=>
 Ac 1 v35 fun v37=>
 ld1 v37 h36 fun v38=>
 oK (Ag v_0 h36) fun v39 h40=>
 Ac 2 v39 fun v41=>
 ld1 v41 h40 fun v42=>
 asI .i64 v42 fun n43=>
 Ce n43 fun m44=>
 Cc 3 m44 v38 fun v45=>
 Ac 0 v45 fun v46=>
 ld1 v46 h40 fun v47=>
 asI .u8 v47 fun n48=>
 k32 (Ci (Bx n48 (Int.ofNat 10))) h40)
 (k32 false h28)) fun b34 h33=>
 cnd b34
 (oK (Ag v_0 h33) fun v49 h50=>
 Ac 2 v49 fun v51=>
 ld1 v51 h50 fun v52=>
 asI .i64 v52 fun n53=>
 fI (wrap .i64 (Bq n53 (Int.ofNat 1))) fun n54=>
 oK (Ag v_0 h50) fun v55 h56=>
 Ac 2 v55 fun v57=>
 st1 v57 (.int .i64 n54) h56 fun h58=>
 J.a1 v_0 h58)
 (k (.tuple [(.bool true),(.bool false)]) h33)
def Ae5(c:CF)(k:KV)(J:Ag5)(v_0:AV)(n_4:Int)(h:H):Prop:=
 oK (Ag v_0 h) fun v59 h60=>
 Ac 2 v59 fun v61=>
 ld1 v61 h60 fun v62=>
 asI .i64 v62 fun n63=>
 oK (Ag v_0 h60) fun v64 h65=>
 Ac 1 v64 fun v66=>
 ld1 v66 h65 fun v67=>
 Cz v67 fun m68=>
 cnd (Ca n63 (Int.ofNat m68))
 (c (.func 164) [v_0,(.str 2 12074)] h65 fun v69 h70=>
 asB v69 fun b71=>
 cnd b71
 (oK (Ag v_0 h70) fun v72 h73=>
 Ac 2 v72 fun v74=>
 ld1 v74 h73 fun v75=>
 asI .i64 v75 fun n76=>
 fI (wrap .i64 (Bq n76 (Int.ofNat 2))) fun n77=>
 oK (Ag v_0 h73) fun v78 h79=>
 Ac 2 v78 fun v80=>
 st1 v80 (.int .i64 n77) h79 fun h81=>
 k (.tuple [(.bool true),(.bool false)]) h81)
 (oK (Ag v_0 h70) fun v82 h83=>
 Ac 2 v82 fun v84=>
 ld1 v84 h83 fun v85=>
 asI .i64 v85 fun n86=>
 fI (wrap .i64 (Bq n86 (Int.ofNat 1))) fun n87=>
 oK (Ag v_0 h83) fun v88 h89=>
 Ac 2 v88 fun v90=>
 st1 v90 (.int .i64 n87) h89 fun h91=>
 J.a2 v_0 n_4 h91))
 (oK (Ag v_0 h65) fun v92 h93=>
 Ac 3 v92 fun v94=>
 ld1 v94 h93 fun v95=>
 fI (wrap .i64 (Bq n_4 (Int.ofNat 2))) fun n96=>
 c (.func 121) [v_0,(.int .i64 n_4),(.int .i64 n96)] h93 fun v97 h98=>
 ld1 v94 h98 fun v99=>
 eqC v99 v95<|
 oK (Ax env (env.ty 206) [(0,(.int .i64 (Int.ofNat 1))),(1,v97)] h98) fun v100 h101=>
 oK (Ap env 31 (fun e ei=>Ak 1 [(0,v100)] h101 e ei)) fun v102 h103=>
 ld1 v94 h103 fun v104=>
 eqC v104 v95<|
 oK (Ar env .append [31,31] [v95,v102] h103) fun v105 h106=>
 oK (Ag v_0 h106) fun v107 h108=>
 Ac 3 v107 fun v109=>
 st1 v109 v105 h108 fun h110=>
 k (.tuple [(.bool true),(.bool true)]) h110)
def Bk0:Ag5:=⟨fun _ _=>False,fun _ _=>False,fun _ _ _=>False⟩
def Zz(c:CF)(k:KV)(m:Nat):Ag5:=Nat.rec Bk0 (fun _ J=>⟨Ae7 c k J,Ae6 c k J,Ae5 c k J⟩) m
def f119(J:Ag5):Jump:=fun L f h=>match L with
 |0=>J.a0 (f 0) h
 |1=>J.a1 (f 0) h
 |2=>asI .i64 (f 4) fun n_4=>J.a2 (f 0) n_4 h
 |_=>False
def Azf:Bb:=[(.root,0),((.l (.l (.l (.r (.l (.l (.r (.r .root)))))))),1),((.l (.r (.l (.r (.r (.r .root)))))),2)]
def d120:Code:=Option.rec .skip (fun c=>c) Tryz.f120.body
def A7d:Aq:=[]
structure Al7 where
 a0:AV→H→Prop
 a1:AV→Int→H→Prop
def Ae4(c:CF)(k:KV)(J:Al7)(v_0:AV)(h:H):Prop:=
 c (.func 165) [v_0] h fun v1 h2=>
 ext 0 v1 fun v3=>
 asI .i64 v3 fun n4=>
 ext 1 v1 fun v5=>
 asI .i64 v5 fun n6=>
 cnd (Ca (Int.ofNat 0) n6)
 (k (.tuple [(.int .i64 n4),(.int .i64 n6)]) h2)
 (c (.func 167) [v_0,(.int .i64 (Int.ofNat 0))] h2 fun v7 h8=>
 asI .u8 v7 fun n9=>
 c (.func 166) [(.int .u8 n9)] h8 fun v10 h11=>
 asB v10 fun b12=>
 cnd b12
 (J.a1 v_0 (Int.ofNat 1) h11)
 (c (.func 169) [v_0] h11 fun v13 h14=>
 asI .i64 v13 fun n15=>
 cnd (Ca (Int.ofNat 0) n15)
 (k (.tuple [(.int .i64 (Int.ofNat 2)),(.int .i64 n15)]) h14)
 (c (.func 170) [v_0] h14 fun v16 h17=>
 asI .i64 v16 fun n18=>
 cnd (Ca (Int.ofNat 0) n18)
 (k (.tuple [(.int .i64 (Int.ofNat 5)),(.int .i64 n18)]) h17)
 (k (.tuple [(.int .i64 (Int.ofNat 6)),(.int .i64 (Int.ofNat 1))]) h17))))
def Ae3(c:CF)(k:KV)(J:Al7)(v_0:AV)(n_3:Int)(h:H):Prop:=
 c (.func 167) [v_0,(.int .i64 n_3)] h fun v19 h20=>
 asI .u8 v19 fun n21=>
 c (.func 166) [(.int .u8 n21)] h20 fun v22 h23=>
 asB v22 fun b24=>
 Ay (fun k25=>gate false b24
 (c (.func 167) [v_0,(.int .i64 n_3)] h23 fun v28 h29=>
 asI .u8 v28 fun n30=>
 c (.func 168) [(.int .u8 n30)] h29 fun v31 h32=>
 asB v31 fun b33=>
 k25 b33 h32)
 (k25 true h23)) fun b27 h26=>
 cnd b27
 (fI (wrap .i64 (Bq n_3 (Int.ofNat 1))) fun n34=>
 J.a1 v_0 n34 h26)
 (k (.tuple [(.int .i64 (Int.ofNat 1)),(.int .i64 n_3)]) h26)
def Bkz:Al7:=⟨fun _ _=>False,fun _ _ _=>False⟩
def Ahw(c:CF)(k:KV)(m:Nat):Al7:=Nat.rec Bkz (fun _ J=>⟨Ae4 c k J,Ae3 c k J⟩) m
def f120(J:Al7):Jump:=fun L f h=>match L with
 |0=>J.a0 (f 0) h
 |1=>asI .i64 (f 3) fun n_3=>J.a1 (f 0) n_3 h
 |_=>False
def A5x:Bb:=[(.root,0),((.l (.r (.l (.l (.r (.l (.r (.r .root)))))))),1)]
def d121:Code:=Option.rec .skip (fun c=>c) Tryz.f121.body
def Bdy:Aq:=[(1,[0,1,2,3,4,5,6,7,8,9,10,11,12,13,14,15,16,17,18,19,20,21,22])]
structure Ay2 where
 a0:AV→Int→Int→H→Prop
def Ae2(_c:CF)(k:KV)(_J:Ay2)(v_0:AV)(n_1 n_2:Int)(h:H):Prop:=
 Hp.Cs h Aak fun p1 h2=>
 oK (Ag v_0 h2) fun v3 h4=>
 Ac 0 v3 fun v5=>
 ld1 v5 h4 fun v6=>
 asS v6 fun l7 c8=>
 oK (Ag v_0 h4) fun v9 h10=>
 Ac 1 v9 fun v11=>
 ld1 v11 h10 fun v12=>
 Ce n_1 fun m13=>
 Cc 3 m13 v12 fun v14=>
 Ac 1 v14 fun v15=>
 ld1 v15 h10 fun v16=>
 asI .i64 v16 fun n17=>
 oK (Ag v_0 h10) fun v18 h19=>
 Ac 1 v18 fun v20=>
 ld1 v20 h19 fun v21=>
 fI (wrap .i64 (Mg n_2 (Int.ofNat 1))) fun n22=>
 Ce n22 fun m23=>
 Cc 3 m23 v21 fun v24=>
 Ac 2 v24 fun v25=>
 ld1 v25 h19 fun v26=>
 asI .i64 v26 fun n27=>
 oK (Ax env (env.ty 41) [(0,(.str l7 c8)),(1,(.int .i64 n17)),(2,(.int .i64 n27))] h19) fun v28 h29=>
 stn 3 (.ptr p1 0) v28 h29 fun h30=>
 ldn 3 (.ptr p1 0) h30 fun v31=>
 k v31 h30
def Bky:Ay2:=⟨fun _ _ _ _=>False⟩
def At5(c:CF)(k:KV)(m:Nat):Ay2:=Nat.rec Bky (fun _ J=>⟨Ae2 c k J⟩) m
def f121(J:Ay2):Jump:=fun L f h=>match L with
 |0=>asI .i64 (f 1) fun n_1=>asI .i64 (f 2) fun n_2=>J.a0 (f 0) n_1 n_2 h
 |_=>False
def Bc5:Bb:=[(.root,0)]
def d122:Code:=Option.rec .skip (fun c=>c) Tryz.f122.body
def A7c:Aq:=[]
def A5w:Bb:=[(.root,0),((.l (.l (.r (.r (.r .root))))),1)]
def d123:Code:=Option.rec .skip (fun c=>c) Tryz.f123.body
def A7b:Aq:=[]
structure Al6 where
 a0:AV→Int→AV→H→Prop
 a1:AV→H→Prop
def Ae1(c:CF)(_k:KV)(J:Al6)(v_0:AV)(n_1:Int)(v_2:AV)(h:H):Prop:=
 asG v_2 fun g1=>
 chk (Nat.ble 1 (len g1))<|
 Hp.Cs h (rowOf 44 g1) fun p2 h3=>
 oK (Ag v_0 h3) fun v4 h5=>
 Ac 4 v4 fun v6=>
 ld1 v6 h5 fun v7=>
 c (.func 155) [v7,(.int .i64 n_1)] h5 fun v8 h9=>
 asB v8 fun b10=>
 cnd (Ci b10)
 (ldn 8 (.ptr p2 0) h9 fun v11=>
 c (.func 22) [v11] h9 fun v12 h13=>
 c (.func 129) [v_0,(.int .i64 (Int.ofNat 18)),v12] h13 fun _ h15=>
 oK (Ag v_0 h15) fun v16 h17=>
 Ac 7 v16 fun v18=>
 st1 v18 (.bool true) h17 fun h19=>
 J.a1 v_0 h19)
 (J.a1 v_0 h9)
def Ae0(_c:CF)(k:KV)(_J:Al6)(v_0:AV)(h:H):Prop:=
 oK (Ag v_0 h) fun v20 h21=>
 Ac 7 v20 fun v22=>
 ld1 v22 h21 fun v23=>
 asB v23 fun b24=>
 k (.bool (Ci b24)) h21
def Bkx:Al6:=⟨fun _ _ _ _=>False,fun _ _=>False⟩
def Akj(c:CF)(k:KV)(m:Nat):Al6:=Nat.rec Bkx (fun _ J=>⟨Ae1 c k J,Ae0 c k J⟩) m
def f123(J:Al6):Jump:=fun L f h=>match L with
 |0=>asI .i64 (f 1) fun n_1=>J.a0 (f 0) n_1 (f 2) h
 |1=>J.a1 (f 0) h
 |_=>False
def A5v:Bb:=[(.root,0),((.r (.r .root)),1)]
def d135:Code:=Option.rec .skip (fun c=>c) Tryz.f135.body
def A7a:Aq:=[]
def A5u:Bb:=[(.root,0),((.l (.r (.l (.r (.r .root))))),1),((.l (.r (.l (.r (.r (.r (.l (.l (.r (.r (.l (.l (.r (.l (.r (.r .root)))))))))))))))),2)]
def d136:Code:=Option.rec .skip (fun c=>c) Tryz.f136.body
def A69:Aq:=[]
def A5t:Bb:=[(.root,0),((.l (.r (.l (.r .root)))),1),((.l (.r (.l (.r (.r (.l (.l (.r (.r (.l (.l (.r (.l (.r .root)))))))))))))),2)]
def d137:Code:=Option.rec .skip (fun c=>c) Tryz.f137.body
def A68:Aq:=[(13,[0,1,2,3,4,5,6,7,8,9,10,11,12,13])]
def A5s:Bb:=[(.root,0),((.l (.r (.l (.r (.r (.r (.r .root))))))),1)]
def d138:Code:=Option.rec .skip (fun c=>c) Tryz.f138.body
def A67:Aq:=[]
def A5r:Bb:=[(.root,0)]
def d141:Code:=Option.rec .skip (fun c=>c) Tryz.f141.body
def Bdx:Aq:=[]
structure Ay1 where
 a0:Nat→Nat→Nat→Nat→H→Prop
def Akc(c:CF)(k:KV)(_J:Ay1)(l_0 c_0:Nat)(l_1 c_1:Nat)(h:H):Prop:=
 c (.func 186) [(.str l_0 c_0),(.str l_1 c_1)] h fun v1 h2=>
 asB v1 fun b3=>
 k (.bool b3) h2
def Bkw:Ay1:=⟨fun _ _ _ _ _=>False⟩
def At4(c:CF)(k:KV)(m:Nat):Ay1:=Nat.rec Bkw (fun _ J=>⟨Akc c k J⟩) m
def f141(J:Ay1):Jump:=fun L f h=>match L with
 |0=>asS (f 0) fun l_0 c_0=>asS (f 1) fun l_1 c_1=>J.a0 l_0 c_0 l_1 c_1 h
 |_=>False
def Bc4:Bb:=[(.root,0)]
def d142:Code:=Option.rec .skip (fun c=>c) Tryz.f142.body
def Bdw:Aq:=[]
structure Ay0 where
 a0:Int→H→Prop
def Aez(c:CF)(k:KV)(_J:Ay0)(n_0:Int)(h:H):Prop:=
 c (.func 187) [(.str 9 834587979106535026493),(.int .u8 n_0)] h fun v1 h2=>
 asI .i64 v1 fun n3=>
 cnd (Ca n3 (Int.ofNat 0))
 (k (.tuple [(.int .u8 (Int.ofNat 0)),(.bool false)]) h2)
 (Ce n3 fun m4=>
 Ij 9 2333331710704686619683 m4 fun m5=>
 k (.tuple [(.int .u8 (Int.ofNat m5)),(.bool true)]) h2)
def Bkv:Ay0:=⟨fun _ _=>False⟩
def At3(c:CF)(k:KV)(m:Nat):Ay0:=Nat.rec Bkv (fun _ J=>⟨Aez c k J⟩) m
def f142(J:Ay0):Jump:=fun L f h=>match L with
 |0=>asI .u8 (f 0) fun n_0=>J.a0 n_0 h
 |_=>False
def Bc3:Bb:=[(.root,0)]
def d145:Code:=Option.rec .skip (fun c=>c) Tryz.f145.body
def Az9:Aq:=[]
structure Ag4 where
 a0:Nat→Nat→Nat→Nat→H→Prop
 a1:Nat→Nat→Nat→Nat→Int→Int→Int→Int→Int→Int→H→Prop
 a2:Nat→Nat→Nat→Nat→Int→Int→Int→Int→Int→Int→H→Prop
def Aey(c:CF)(k:KV)(J:Ag4)(l_0 c_0:Nat)(l_1 c_1:Nat)(h:H):Prop:=
 Ay (fun k1=>gate false (Bx (Int.ofNat l_1) (Int.ofNat 0))
 (k1 (Dv l_1 c_1 l_0 c_0) h)
 (k1 true h)) fun b3 h2=>
 cnd b3
 (k (.int .i64 (Int.ofNat 0)) h2)
 (cnd (Bx (Int.ofNat l_1) (Int.ofNat 1))
 (Ij l_1 c_1 0 fun m4=>
 c (.func 188) [(.str l_0 c_0),(.int .u8 (Int.ofNat m4))] h2 fun v5 h6=>
 asI .i64 v5 fun n7=>
 k (.int .i64 n7) h6)
 (cnd (Ef (Int.ofNat l_0) (Int.ofNat l_1))
 (k (.int .i64 (Int.negSucc 0)) h2)
 (ld1 (.ptr (.r .z) 0) h2 fun v8=>
 asI .i64 v8 fun n9=>
 Ay (fun k10=>gate true (Ef (Int.ofNat l_1) n9)
 (k10 (Ef (Int.ofNat l_0) (Int.ofNat 64)) h2)
 (k10 false h2)) fun b12 h11=>
 cnd b12
 (c (.func 189) [(.str l_0 c_0),(.str l_1 c_1)] h11 fun v13 h14=>
 asI .i64 v13 fun n15=>
 k (.int .i64 n15) h14)
 (Ij l_1 c_1 0 fun m16=>
 Ij l_1 c_1 1 fun m17=>
 fI (wrap .i64 (Mg (Int.ofNat l_0) (Int.ofNat l_1))) fun n18=>
 fI (wrap .i64 (Bq n18 (Int.ofNat 1))) fun n19=>
 J.a1 l_0 c_0 l_1 c_1 (Int.ofNat l_1) (Int.ofNat m16) (Int.ofNat m17) (Int.ofNat 0) n19 (Int.ofNat 0) h11))))
def Atl(c:CF)(k:KV)(J:Ag4)(l_0 c_0:Nat)(l_1 c_1:Nat)(n_5 n_6:Int)(n_7 n_8:Int)(n_9 n_10:Int)(h:H):Prop:=
 cnd (Ca n_8 n_9)
 (Ce n_8 fun m20=>
 Ij l_0 c_0 m20 fun m21=>
 cnd (Ci (Bx (Int.ofNat m21) n_6))
 (fI (wrap .i64 (Bq n_8 (Int.ofNat 1))) fun n22=>
 Ce n_9 fun m23=>
 Ce n22 fun m24=>
 No l_0 c_0 m24 m23 fun l25 c26=>
 c (.func 188) [(.str l25 c26),(.int .u8 n_6)] h fun v27 h28=>
 asI .i64 v27 fun n29=>
 cnd (Ca n29 (Int.ofNat 0))
 (k (.int .i64 (Int.negSucc 0)) h28)
 (fI (wrap .i64 (Bq n29 (Int.ofNat 1))) fun n30=>
 fI (wrap .i64 (Bq n_8 n30)) fun n31=>
 J.a2 l_0 c_0 l_1 c_1 n_5 n_6 n_7 n31 n_9 n_10 h28))
 (J.a2 l_0 c_0 l_1 c_1 n_5 n_6 n_7 n_8 n_9 n_10 h))
 (k (.int .i64 (Int.negSucc 0)) h)
def Atk(c:CF)(k:KV)(J:Ag4)(l_0 c_0:Nat)(l_1 c_1:Nat)(n_5 n_6:Int)(n_7 n_8:Int)(n_9 n_10:Int)(h:H):Prop:=
 fI (wrap .i64 (Bq n_8 (Int.ofNat 1))) fun n32=>
 Ce n32 fun m33=>
 Ij l_0 c_0 m33 fun m34=>
 Ay (fun k35=>gate true (Bx (Int.ofNat m34) n_7)
 (fI (wrap .i64 (Bq n_8 n_5)) fun n38=>
 Ce n38 fun m39=>
 Ce n_8 fun m40=>
 No l_0 c_0 m40 m39 fun l41 c42=>
 k35 (Dv l41 c42 l_1 c_1) h)
 (k35 false h)) fun b37 h36=>
 cnd b37
 (k (.int .i64 n_8) h36)
 (fI (wrap .i64 (Bq n_8 (Int.ofNat 1))) fun n43=>
 fI (wrap .i64 (Bq n_10 (Int.ofNat 1))) fun n44=>
 ld1 (.ptr (.r .z) 0) h36 fun v45=>
 asI .i64 v45 fun n46=>
 Ay (fun k47=>gate true (Ef n_5 n46)
 (c (.func 190) [(.int .i64 n43)] h36 fun v50 h51=>
 asI .i64 v50 fun n52=>
 k47 (Ca n52 n44) h51)
 (k47 false h36)) fun b49 h48=>
 cnd b49
 (Ce n43 fun m53=>
 No l_0 c_0 m53 l_0 fun l54 c55=>
 c (.func 189) [(.str l54 c55),(.str l_1 c_1)] h48 fun v56 h57=>
 asI .i64 v56 fun n58=>
 cnd (Ef (Int.ofNat 0) n58)
 (fI (wrap .i64 (Bq n58 n43)) fun n59=>
 k (.int .i64 n59) h57)
 (k (.int .i64 (Int.negSucc 0)) h57))
 (ld1 (.ptr (.r .z) 0) h48 fun v60=>
 asI .i64 v60 fun n61=>
 Ay (fun k62=>gate true (Ca n61 n_5)
 (A57 .i64 n43 (Int.ofNat 4) fun n65=>
 fI (wrap .i64 (Bq (Int.ofNat 4) n65)) fun n66=>
 k62 (Ef n66 n44) h48)
 (k62 false h48)) fun b64 h63=>
 Ay (fun k67=>gate true b64
 (k67 (Ca n43 n_9) h63)
 (k67 false h63)) fun b69 h68=>
 cnd b69
 (Ce n43 fun m70=>
 No l_0 c_0 m70 l_0 fun l71 c72=>
 c (.func 191) [(.str l71 c72),(.str l_1 c_1)] h68 fun v73 h74=>
 asI .i64 v73 fun n75=>
 cnd (Ca n75 (Int.ofNat 0))
 (k (.int .i64 (Int.negSucc 0)) h74)
 (fI (wrap .i64 (Bq n43 n75)) fun n76=>
 k (.int .i64 n76) h74))
 (J.a1 l_0 c_0 l_1 c_1 n_5 n_6 n_7 n43 n_9 n44 h68)))
def Bku:Ag4:=⟨fun _ _ _ _ _=>False,fun _ _ _ _ _ _ _ _ _ _ _=>False,fun _ _ _ _ _ _ _ _ _ _ _=>False⟩
def At2(c:CF)(k:KV)(m:Nat):Ag4:=Nat.rec Bku (fun _ J=>⟨Aey c k J,Atl c k J,Atk c k J⟩) m
def f145(J:Ag4):Jump:=fun L f h=>match L with
 |0=>asS (f 0) fun l_0 c_0=>asS (f 1) fun l_1 c_1=>J.a0 l_0 c_0 l_1 c_1 h
 |1=>asS (f 0) fun l_0 c_0=>asS (f 1) fun l_1 c_1=>asI .i64 (f 5) fun n_5=>asI .u8 (f 6) fun n_6=>asI .u8 (f 7) fun n_7=>asI .i64 (f 8) fun n_8=>asI .i64 (f 9) fun n_9=>asI .i64 (f 10) fun n_10=>J.a1 l_0 c_0 l_1 c_1 n_5 n_6 n_7 n_8 n_9 n_10 h
 |2=>asS (f 0) fun l_0 c_0=>asS (f 1) fun l_1 c_1=>asI .i64 (f 5) fun n_5=>asI .u8 (f 6) fun n_6=>asI .u8 (f 7) fun n_7=>asI .i64 (f 8) fun n_8=>asI .i64 (f 9) fun n_9=>asI .i64 (f 10) fun n_10=>J.a2 l_0 c_0 l_1 c_1 n_5 n_6 n_7 n_8 n_9 n_10 h
 |_=>False
def Aze:Bb:=[(.root,0),((.l (.l (.r (.r (.r (.r (.r (.r (.r (.r .root)))))))))),1),((.r (.l (.r (.l (.l (.l (.r (.r (.r (.r (.r (.r (.r (.r .root)))))))))))))),2)]
def d146:Code:=Option.rec .skip (fun c=>c) Tryz.f146.body
def A66:Aq:=[]
def A5q:Bb:=[(.root,0)]
def d147:Code:=Option.rec .skip (fun c=>c) Tryz.f147.body
def A65:Aq:=[]
def A5p:Bb:=[(.root,0),((.l (.r (.r .root))),1)]
def d148:Code:=Option.rec .skip (fun c=>c) Tryz.f148.body
def A64:Aq:=[]
def A5o:Bb:=[(.root,0)]
def d152:Code:=Option.rec .skip (fun c=>c) Tryz.f152.body
def A63:Aq:=[(6,[0,1,2,3,4,5,6,7,8]),(8,[0,1,2,3,4,5,6,7,8,9,10,11,12,13,14]),(9,[0,1,2,3,4,5,6])]
def A5n:Bb:=[(.root,0),((.l (.r (.l (.r .root)))),1),((.r (.r (.l (.l (.r (.r (.l (.l (.r (.l (.r .root))))))))))),2)]
def d155:Code:=Option.rec .skip (fun c=>c) Tryz.f155.body
def A62:Aq:=[]
structure Al5 where
 a0:AV→Int→H→Prop
 a1:AV→Int→H→Prop
def Aex(_c:CF)(k:KV)(J:Al5)(v_0:AV)(n_1:Int)(h:H):Prop:=
 oV (Hh env .eql 93 v_0 .Cm) fun v1=>
 asB v1 fun b2=>
 Ay (fun k3=>gate false b2
 (k3 (Ca n_1 (Int.ofNat 0)) h)
 (k3 true h)) fun b5 h4=>
 cnd b5
 (k (.bool false) h4)
 (J.a1 v_0 n_1 h4)
def Aew(c:CF)(k:KV)(J:Al5)(v_0:AV)(n_1:Int)(h:H):Prop:=
 oK (Ag v_0 h) fun v6 h7=>
 Ac 0 v6 fun v8=>
 c (.func 205) [v8] h7 fun v9 h10=>
 asI .i64 v9 fun n11=>
 fI (wrap .i64 (Mg n11 n_1)) fun n12=>
 oK (Ar env .max [2,2] [(.int .i64 n12),(.int .i64 (Int.ofNat 0))] h10) fun v13 h14=>
 asI .i64 v13 fun n15=>
 oK (Ag v_0 h14) fun v16 h17=>
 Ac 0 v16 fun v18=>
 c (.func 206) [v18,(.int .i64 n11),(.int .i64 n15)] h17 fun v19 h20=>
 asB v19 fun b21=>
 cnd b21
 (k (.bool (Ef n_1 n11)) h20)
 (J.a1 v_0 n_1 h20)
def Bkt:Al5:=⟨fun _ _ _=>False,fun _ _ _=>False⟩
def Aki(c:CF)(k:KV)(m:Nat):Al5:=Nat.rec Bkt (fun _ J=>⟨Aex c k J,Aew c k J⟩) m
def f155(J:Al5):Jump:=fun L f h=>match L with
 |0=>asI .i64 (f 1) fun n_1=>J.a0 (f 0) n_1 h
 |1=>asI .i64 (f 1) fun n_1=>J.a1 (f 0) n_1 h
 |_=>False
def A5m:Bb:=[(.root,0),((.l (.r (.r .root))),1)]
def d163:Code:=Option.rec .skip (fun c=>c) Tryz.f163.body
def A61:Aq:=[]
def A5l:Bb:=[(.root,0)]
def d164:Code:=Option.rec .skip (fun c=>c) Tryz.f164.body
def A60:Aq:=[(1,[0,1,2,3,4,5,6,7,8,9,10,11,12]),(6,[0,1,2,3,4,5,6,7,8,9,10,11,12,13,14,15,16])]
structure Al4 where
 a0:AV→Nat→Nat→H→Prop
 a1:AV→Nat→Nat→Int→Int→H→Prop
def Aev(_c:CF)(k:KV)(J:Al4)(v_0:AV)(l_1 c_1:Nat)(h:H):Prop:=
 oK (Ag v_0 h) fun v1 h2=>
 Ac 2 v1 fun v3=>
 ld1 v3 h2 fun v4=>
 asI .i64 v4 fun n5=>
 fI (wrap .i64 (Bq n5 (Int.ofNat l_1))) fun n6=>
 oK (Ag v_0 h2) fun v7 h8=>
 Ac 1 v7 fun v9=>
 ld1 v9 h8 fun v10=>
 Cz v10 fun m11=>
 cnd (Ca (Int.ofNat m11) n6)
 (k (.bool false) h8)
 (J.a1 v_0 l_1 c_1 (Int.ofNat l_1) (Int.ofNat 0) h8)
def Aeu(_c:CF)(k:KV)(J:Al4)(v_0:AV)(l_1 c_1:Nat)(n_20 n_21:Int)(h:H):Prop:=
 cnd (Ca n_21 n_20)
 (oK (Ag v_0 h) fun v12 h13=>
 Ac 1 v12 fun v14=>
 ld1 v14 h13 fun v15=>
 oK (Ag v_0 h13) fun v16 h17=>
 Ac 2 v16 fun v18=>
 ld1 v18 h17 fun v19=>
 asI .i64 v19 fun n20=>
 fI (wrap .i64 (Bq n20 n_21)) fun n21=>
 Ce n21 fun m22=>
 Cc 3 m22 v15 fun v23=>
 Ac 0 v23 fun v24=>
 ld1 v24 h17 fun v25=>
 asI .u8 v25 fun n26=>
 Ce n_21 fun m27=>
 Ij l_1 c_1 m27 fun m28=>
 cnd (Ci (Bx n26 (Int.ofNat m28)))
 (k (.bool false) h17)
 (fI (wrap .i64 (Bq n_21 (Int.ofNat 1))) fun n29=>
 J.a1 v_0 l_1 c_1 n_20 n29 h17))
 (k (.bool true) h)
def Bks:Al4:=⟨fun _ _ _ _=>False,fun _ _ _ _ _ _=>False⟩
def Ahv(c:CF)(k:KV)(m:Nat):Al4:=Nat.rec Bks (fun _ J=>⟨Aev c k J,Aeu c k J⟩) m
def f164(J:Al4):Jump:=fun L f h=>match L with
 |0=>asS (f 1) fun l_1 c_1=>J.a0 (f 0) l_1 c_1 h
 |1=>asS (f 1) fun l_1 c_1=>asI .i64 (f 20) fun n_20=>asI .i64 (f 21) fun n_21=>J.a1 (f 0) l_1 c_1 n_20 n_21 h
 |_=>False
def A5k:Bb:=[(.root,0),((.l (.r (.l (.r (.r .root))))),1)]
def d165:Code:=Option.rec .skip (fun c=>c) Tryz.f165.body
def A6z:Aq:=[(12,[0,1,2,3,4,5,6,7,8,9,10,11,12,13,14,15])]
structure Al3 where
 a0:AV→H→Prop
 a1:Int→Int→H→Prop
def Aet(c:CF)(k:KV)(J:Al3)(v_0:AV)(h:H):Prop:=
 c (.func 208) [v_0] h fun v1 h2=>
 asI .i64 v1 fun n3=>
 cnd (Ca n3 (Int.ofNat 0))
 (k (.tuple [(.int .i64 (Int.ofNat 0)),(.int .i64 (Int.ofNat 0))]) h2)
 (c (.func 209) [v_0,(.int .i64 n3)] h2 fun v4 h5=>
 asI .i64 v4 fun n6=>
 cnd (Ca (Int.ofNat 0) n6)
 (c (.func 167) [v_0,(.int .i64 n3)] h5 fun v7 h8=>
 asI .u8 v7 fun n9=>
 cnd (Bx n9 (Int.ofNat 34))
 (J.a1 (Int.ofNat 4) n6 h8)
 (J.a1 (Int.ofNat 3) n6 h8))
 (oK (Ag v_0 h5) fun v10 h11=>
 Ac 2 v10 fun v12=>
 ld1 v12 h11 fun v13=>
 asI .i64 v13 fun n14=>
 fI (wrap .i64 (Bq n14 n3)) fun n15=>
 oK (Ag v_0 h11) fun v16 h17=>
 Ac 5 v16 fun v18=>
 ld1 v18 h17 fun v19=>
 asI .i64 v19 fun n20=>
 cnd (Ci (Bx n20 n15))
 (oK (Ag v_0 h17) fun v21 h22=>
 Ac 3 v21 fun v23=>
 ld1 v23 h22 fun v24=>
 fI (wrap .i64 (Bq n15 (Int.ofNat 1))) fun n25=>
 c (.func 121) [v_0,(.int .i64 n15),(.int .i64 n25)] h22 fun v26 h27=>
 ld1 v23 h27 fun v28=>
 eqC v28 v24<|
 oK (Ax env (env.ty 206) [(0,(.int .i64 (Int.ofNat 2))),(1,v26)] h27) fun v29 h30=>
 oK (Ap env 31 (fun e ei=>Ak 1 [(0,v29)] h30 e ei)) fun v31 h32=>
 ld1 v23 h32 fun v33=>
 eqC v33 v24<|
 oK (Ar env .append [31,31] [v24,v31] h32) fun v34 h35=>
 oK (Ag v_0 h35) fun v36 h37=>
 Ac 3 v36 fun v38=>
 st1 v38 v34 h37 fun h39=>
 oK (Ag v_0 h39) fun v40 h41=>
 Ac 5 v40 fun v42=>
 st1 v42 (.int .i64 n15) h41 fun h43=>
 k (.tuple [(.int .i64 (Int.ofNat 0)),(.int .i64 (Int.ofNat 0))]) h43)
 (k (.tuple [(.int .i64 (Int.ofNat 0)),(.int .i64 (Int.ofNat 0))]) h17)))
def Zu(_c:CF)(k:KV)(_J:Al3)(n_2 n_3:Int)(h:H):Prop:=
 k (.tuple [(.int .i64 n_2),(.int .i64 n_3)]) h
def Bkr:Al3:=⟨fun _ _=>False,fun _ _ _=>False⟩
def Akh(c:CF)(k:KV)(m:Nat):Al3:=Nat.rec Bkr (fun _ J=>⟨Aet c k J,Zu c k J⟩) m
def f165(J:Al3):Jump:=fun L f h=>match L with
 |0=>J.a0 (f 0) h
 |1=>asI .i64 (f 2) fun n_2=>asI .i64 (f 3) fun n_3=>J.a1 n_2 n_3 h
 |_=>False
def A5j:Bb:=[(.root,0),((.r (.r (.l (.r (.r (.l (.r (.r (.r .root))))))))),1)]
def d166:Code:=Option.rec .skip (fun c=>c) Tryz.f166.body
def Bdv:Aq:=[]
structure Ayz where
 a0:Int→H→Prop
def Aes(_c:CF)(k:KV)(_J:Ayz)(n_0:Int)(h:H):Prop:=
 Ay (fun k1=>gate true (Ef (Int.ofNat 97) n_0)
 (k1 (Ef n_0 (Int.ofNat 122)) h)
 (k1 false h)) fun b3 h2=>
 Ay (fun k4=>gate false b3
 (Ay (fun k7=>gate true (Ef (Int.ofNat 65) n_0)
 (k7 (Ef n_0 (Int.ofNat 90)) h2)
 (k7 false h2)) fun b9 h8=>
 k4 b9 h8)
 (k4 true h2)) fun b6 h5=>
 Ay (fun k10=>gate false b6
 (k10 (Bx n_0 (Int.ofNat 95)) h5)
 (k10 true h5)) fun b12 h11=>
 k (.bool b12) h11
def Bkq:Ayz:=⟨fun _ _=>False⟩
def At1(c:CF)(k:KV)(m:Nat):Ayz:=Nat.rec Bkq (fun _ J=>⟨Aes c k J⟩) m
def f166(J:Ayz):Jump:=fun L f h=>match L with
 |0=>asI .u8 (f 0) fun n_0=>J.a0 n_0 h
 |_=>False
def Bc2:Bb:=[(.root,0)]
def d167:Code:=Option.rec .skip (fun c=>c) Tryz.f167.body
def Bdu:Aq:=[(1,[0,1,2,3,4,5,6,7,8,9,10,11]),(3,[0,1,2,3,4,5,6,7,8,9,10,11,12,13])]
structure Ayy where
 a0:AV→Int→H→Prop
def Aer(_c:CF)(k:KV)(_J:Ayy)(v_0:AV)(n_1:Int)(h:H):Prop:=
 oK (Ag v_0 h) fun v1 h2=>
 Ac 2 v1 fun v3=>
 ld1 v3 h2 fun v4=>
 asI .i64 v4 fun n5=>
 fI (wrap .i64 (Bq n5 n_1)) fun n6=>
 oK (Ag v_0 h2) fun v7 h8=>
 Ac 1 v7 fun v9=>
 ld1 v9 h8 fun v10=>
 Cz v10 fun m11=>
 cnd (Ef (Int.ofNat m11) n6)
 (k (.int .u8 (Int.ofNat 0)) h8)
 (oK (Ag v_0 h8) fun v12 h13=>
 Ac 1 v12 fun v14=>
 ld1 v14 h13 fun v15=>
 oK (Ag v_0 h13) fun v16 h17=>
 Ac 2 v16 fun v18=>
 ld1 v18 h17 fun v19=>
 asI .i64 v19 fun n20=>
 fI (wrap .i64 (Bq n20 n_1)) fun n21=>
 Ce n21 fun m22=>
 Cc 3 m22 v15 fun v23=>
 Ac 0 v23 fun v24=>
 ld1 v24 h17 fun v25=>
 asI .u8 v25 fun n26=>
 k (.int .u8 n26) h17)
def Bkp:Ayy:=⟨fun _ _ _=>False⟩
def At0(c:CF)(k:KV)(m:Nat):Ayy:=Nat.rec Bkp (fun _ J=>⟨Aer c k J⟩) m
def f167(J:Ayy):Jump:=fun L f h=>match L with
 |0=>asI .i64 (f 1) fun n_1=>J.a0 (f 0) n_1 h
 |_=>False
def Bc1:Bb:=[(.root,0)]
def d168:Code:=Option.rec .skip (fun c=>c) Tryz.f168.body
def Bdt:Aq:=[]
structure Ayx where
 a0:Int→H→Prop
def Aeq(_c:CF)(k:KV)(_J:Ayx)(n_0:Int)(h:H):Prop:=
 Ay (fun k1=>gate true (Ef (Int.ofNat 48) n_0)
 (k1 (Ef n_0 (Int.ofNat 57)) h)
 (k1 false h)) fun b3 h2=>
 k (.bool b3) h2
def Bko:Ayx:=⟨fun _ _=>False⟩
def Atz(c:CF)(k:KV)(m:Nat):Ayx:=Nat.rec Bko (fun _ J=>⟨Aeq c k J⟩) m
def f168(J:Ayx):Jump:=fun L f h=>match L with
 |0=>asI .u8 (f 0) fun n_0=>J.a0 n_0 h
 |_=>False
def Bc0:Bb:=[(.root,0)]
def d169:Code:=Option.rec .skip (fun c=>c) Tryz.f169.body
def At9:Aq:=[]
structure Abw where
 a0:AV→H→Prop
 a1:AV→Int→H→Prop
 a2:AV→Int→H→Prop
 a3:AV→Int→H→Prop
def Aep(c:CF)(_k:KV)(J:Abw)(v_0:AV)(h:H):Prop:=
 c (.func 167) [v_0,(.int .i64 (Int.ofNat 0))] h fun v1 h2=>
 asI .u8 v1 fun n3=>
 cnd (Bx n3 (Int.ofNat 46))
 (fI (wrap .i64 (Bq (Int.ofNat 0) (Int.ofNat 1))) fun n4=>
 J.a3 v_0 n4 h2)
 (J.a3 v_0 (Int.ofNat 0) h2)
def Aeo(c:CF)(k:KV)(J:Abw)(v_0:AV)(n_3:Int)(h:H):Prop:=
 c (.func 167) [v_0,(.int .i64 n_3)] h fun v5 h6=>
 asI .u8 v5 fun n7=>
 fI (wrap .i64 (Bq n_3 (Int.ofNat 1))) fun n8=>
 c (.func 167) [v_0,(.int .i64 n8)] h6 fun v9 h10=>
 asI .u8 v9 fun n11=>
 c (.func 187) [(.str 4 1349535077),(.int .u8 n7)] h10 fun v12 h13=>
 asI .i64 v12 fun n14=>
 Ay (fun k15=>gate true (Ef (Int.ofNat 0) n14)
 (Ay (fun k18=>gate false (Bx n11 (Int.ofNat 43))
 (k18 (Bx n11 (Int.ofNat 45)) h13)
 (k18 true h13)) fun b20 h19=>
 k15 b20 h19)
 (k15 false h13)) fun b17 h16=>
 cnd b17
 (fI (wrap .i64 (Bq n_3 (Int.ofNat 1))) fun n21=>
 J.a2 v_0 n21 h16)
 (c (.func 166) [(.int .u8 n7)] h16 fun v22 h23=>
 asB v22 fun b24=>
 Ay (fun k25=>gate true (Ci b24)
 (c (.func 168) [(.int .u8 n7)] h23 fun v28 h29=>
 asB v28 fun b30=>
 k25 (Ci b30) h29)
 (k25 false h23)) fun b27 h26=>
 Ay (fun k31=>gate true b27
 (k31 (Ci (Bx n7 (Int.ofNat 46))) h26)
 (k31 false h26)) fun b33 h32=>
 cnd b33
 (k (.int .i64 n_3) h32)
 (J.a2 v_0 n_3 h32))
def Aen(_c:CF)(_k:KV)(J:Abw)(v_0:AV)(n_3:Int)(h:H):Prop:=
 fI (wrap .i64 (Bq n_3 (Int.ofNat 1))) fun n34=>
 J.a1 v_0 n34 h
def Aem(c:CF)(k:KV)(J:Abw)(v_0:AV)(n_3:Int)(h:H):Prop:=
 c (.func 167) [v_0,(.int .i64 n_3)] h fun v35 h36=>
 asI .u8 v35 fun n37=>
 c (.func 168) [(.int .u8 n37)] h36 fun v38 h39=>
 asB v38 fun b40=>
 cnd (Ci b40)
 (k (.int .i64 (Int.ofNat 0)) h39)
 (fI (wrap .i64 (Bq n_3 (Int.ofNat 1))) fun n41=>
 J.a1 v_0 n41 h39)
def Bkn:Abw:=⟨fun _ _=>False,fun _ _ _=>False,fun _ _ _=>False,fun _ _ _=>False⟩
def Ul(c:CF)(k:KV)(m:Nat):Abw:=Nat.rec Bkn (fun _ J=>⟨Aep c k J,Aeo c k J,Aen c k J,Aem c k J⟩) m
def f169(J:Abw):Jump:=fun L f h=>match L with
 |0=>J.a0 (f 0) h
 |1=>asI .i64 (f 3) fun n_3=>J.a1 (f 0) n_3 h
 |2=>asI .i64 (f 3) fun n_3=>J.a2 (f 0) n_3 h
 |3=>asI .i64 (f 3) fun n_3=>J.a3 (f 0) n_3 h
 |_=>False
def Ass:Bb:=[(.root,0),((.l (.r (.r (.r (.r (.r .root)))))),1),((.r (.l (.l (.r (.r (.r (.r (.r .root)))))))),2),((.r (.r (.r .root))),3)]
def d170:Code:=Option.rec .skip (fun c=>c) Tryz.f170.body
def A6y:Aq:=[]
structure Al2 where
 a0:AV→H→Prop
 a1:AV→AV→Int→Int→H→Prop
def Ael(_c:CF)(_k:KV)(J:Al2)(v_0:AV)(h:H):Prop:=
 oK (Ap env 32 (fun e ei=>Ak 29 [(0,(.str 4 975518245)),(1,(.str 3 3026478)),(2,(.str 3 4013116)),(3,(.str 3 4013630)),(4,(.str 2 15917)),(5,(.str 2 11051)),(6,(.str 2 11565)),(7,(.str 2 15420)),(8,(.str 2 15934)),(9,(.str 2 15676)),(10,(.str 2 15678)),(11,(.str 2 15677)),(12,(.str 2 15649)),(13,(.str 2 9766)),(14,(.str 2 31868)),(15,(.str 2 15658)),(16,(.str 2 15663)),(17,(.str 2 15653)),(18,(.str 2 15659)),(19,(.str 2 15661)),(20,(.str 2 15654)),(21,(.str 2 15710)),(22,(.str 2 15740)),(23,(.str 2 8995)),(24,(.str 2 14908)),(25,(.str 2 15930)),(26,(.str 2 9532)),(27,(.str 2 15909)),(28,(.str 2 14885))] h e ei)) fun v1 h2=>
 Cz v1 fun m3=>
 J.a1 v_0 v1 (Int.ofNat m3) (Int.ofNat 0) h2
def Aek(c:CF)(k:KV)(J:Al2)(v_0 v_8:AV)(n_9 n_10:Int)(h:H):Prop:=
 cnd (Ca n_10 n_9)
 (Ce n_10 fun m4=>
 Cc 1 m4 v_8 fun v5=>
 ld1 v5 h fun v6=>
 asS v6 fun l7 c8=>
 c (.func 164) [v_0,(.str l7 c8)] h fun v9 h10=>
 asB v9 fun b11=>
 cnd b11
 (k (.int .i64 (Int.ofNat l7)) h10)
 (fI (wrap .i64 (Bq n_10 (Int.ofNat 1))) fun n12=>
 J.a1 v_0 v_8 n_9 n12 h10))
 (c (.func 167) [v_0,(.int .i64 (Int.ofNat 0))] h fun v13 h14=>
 asI .u8 v13 fun n15=>
 Ay (fun k16=>gate true (Ci (Bx n15 (Int.ofNat 0)))
 (c (.func 187) [(.str 25 220783302398203228823658293894207885629972945978387855859035),(.int .u8 n15)] h14 fun v19 h20=>
 asI .i64 v19 fun n21=>
 k16 (Ef (Int.ofNat 0) n21) h20)
 (k16 false h14)) fun b18 h17=>
 cnd b18
 (k (.int .i64 (Int.ofNat 1)) h17)
 (k (.int .i64 (Int.ofNat 0)) h17))
def Bkm:Al2:=⟨fun _ _=>False,fun _ _ _ _ _=>False⟩
def Ahu(c:CF)(k:KV)(m:Nat):Al2:=Nat.rec Bkm (fun _ J=>⟨Ael c k J,Aek c k J⟩) m
def f170(J:Al2):Jump:=fun L f h=>match L with
 |0=>J.a0 (f 0) h
 |1=>asI .i64 (f 9) fun n_9=>asI .i64 (f 10) fun n_10=>J.a1 (f 0) (f 8) n_9 n_10 h
 |_=>False
def A5i:Bb:=[(.root,0),((.l (.r (.l (.r (.r .root))))),1)]
def d171:Code:=Option.rec .skip (fun c=>c) Tryz.f171.body
def A6x:Aq:=[]
def A5h:Bb:=[(.root,0)]
def d179:Code:=Option.rec .skip (fun c=>c) Tryz.f179.body
def A6w:Aq:=[(3,[0,1,2,3,4,5,6])]
def A5g:Bb:=[(.root,0)]
def d182:Code:=Option.rec .skip (fun c=>c) Tryz.f182.body
def A6v:Aq:=[(5,[0,1,2,3,4,5,6,7,8,9,10,11,12,13,14,15,16,17,18,19,20,21,22]),(6,[0,1,2,3,4,5,6,7,8,9,10,11]),(8,[0,1,2,3,4,5,6])]
def A5f:Bb:=[(.root,0),((.l (.r (.l (.r (.r (.r (.r (.r (.r (.r (.r (.r .root)))))))))))),1),((.r (.r (.l (.l (.r (.r (.l (.l (.r (.l (.r (.r (.r (.r (.r (.r (.r (.r (.r .root))))))))))))))))))),2),((.r (.r (.r (.r (.r (.r (.r (.r (.r .root))))))))),3),((.r (.r (.l (.r (.l (.r (.r (.r .root)))))))),4),((.r (.r (.r (.r (.r (.r (.r (.r .root)))))))),5)]
def d184:Code:=Option.rec .skip (fun c=>c) Tryz.f184.body
def A6u:Aq:=[]
def A5e:Bb:=[(.root,0),((.l (.r .root)),1)]
def d186:Code:=Option.rec .skip (fun c=>c) Tryz.f186.body
def Bds:Aq:=[]
structure Ayw where
 a0:Nat→Nat→Nat→Nat→H→Prop
def Aej(_c:CF)(k:KV)(_J:Ayw)(l_0 c_0:Nat)(l_1 c_1:Nat)(h:H):Prop:=
 Ay (fun k1=>gate true (Ef (Int.ofNat l_1) (Int.ofNat l_0))
 (No l_0 c_0 0 l_1 fun l4 c5=>
 k1 (Dv l4 c5 l_1 c_1) h)
 (k1 false h)) fun b3 h2=>
 k (.bool b3) h2
def Bkl:Ayw:=⟨fun _ _ _ _ _=>False⟩
def Aty(c:CF)(k:KV)(m:Nat):Ayw:=Nat.rec Bkl (fun _ J=>⟨Aej c k J⟩) m
def f186(J:Ayw):Jump:=fun L f h=>match L with
 |0=>asS (f 0) fun l_0 c_0=>asS (f 1) fun l_1 c_1=>J.a0 l_0 c_0 l_1 c_1 h
 |_=>False
def Bcz:Bb:=[(.root,0)]
def d187:Code:=Option.rec .skip (fun c=>c) Tryz.f187.body
def Bdr:Aq:=[]
structure Ayv where
 a0:Nat→Nat→Int→H→Prop
def Aei(c:CF)(k:KV)(_J:Ayv)(l_0 c_0:Nat)(n_1:Int)(h:H):Prop:=
 c (.func 188) [(.str l_0 c_0),(.int .u8 n_1)] h fun v1 h2=>
 asI .i64 v1 fun n3=>
 k (.int .i64 n3) h2
def Bkk:Ayv:=⟨fun _ _ _ _=>False⟩
def Atx(c:CF)(k:KV)(m:Nat):Ayv:=Nat.rec Bkk (fun _ J=>⟨Aei c k J⟩) m
def f187(J:Ayv):Jump:=fun L f h=>match L with
 |0=>asS (f 0) fun l_0 c_0=>asI .u8 (f 1) fun n_1=>J.a0 l_0 c_0 n_1 h
 |_=>False
def Bcy:Bb:=[(.root,0)]
def d188:Code:=Option.rec .skip (fun c=>c) Tryz.f188.body
def Bdq:Aq:=[]
structure Ayu where
 a0:Nat→Nat→Int→H→Prop
def Aeh(c:CF)(k:KV)(_J:Ayu)(l_0 c_0:Nat)(n_1:Int)(h:H):Prop:=
 c (.func 220) [(.str l_0 c_0),(.int .u8 n_1)] h fun v1 h2=>
 asI .i64 v1 fun n3=>
 k (.int .i64 n3) h2
def Bkj:Ayu:=⟨fun _ _ _ _=>False⟩
def Atw(c:CF)(k:KV)(m:Nat):Ayu:=Nat.rec Bkj (fun _ J=>⟨Aeh c k J⟩) m
def f188(J:Ayu):Jump:=fun L f h=>match L with
 |0=>asS (f 0) fun l_0 c_0=>asI .u8 (f 1) fun n_1=>J.a0 l_0 c_0 n_1 h
 |_=>False
def Bcx:Bb:=[(.root,0)]
def d192:Code:=Option.rec .skip (fun c=>c) Tryz.f192.body
def A6t:Aq:=[]
def A5d:Bb:=[(.root,0)]
def d193:Code:=Option.rec .skip (fun c=>c) Tryz.f193.body
def Bpo:Aq:=[]
def Bpn:Bb:=[(.root,0)]
def d200:Code:=Option.rec .skip (fun c=>c) Tryz.f200.body
def A6s:Aq:=[]
def A5c:Bb:=[(.root,0),((.l (.r (.l (.r (.r (.r (.r (.r (.r (.r (.r (.r (.r (.r .root)))))))))))))),1),((.r (.r (.r (.r (.r (.r (.r (.r (.r (.r (.r .root))))))))))),2),((.r (.r (.r (.r (.r (.r (.r (.r (.r .root))))))))),3),((.r (.l (.r (.r (.r (.r (.r (.r (.r (.r .root)))))))))),4)]
def d201:Code:=Option.rec .skip (fun c=>c) Tryz.f201.body
def A6r:Aq:=[(5,[0,1,2,3,4,5,6]),(6,[0,1,2,3,4,5,6,7,8,9])]
def A5b:Bb:=[(.root,0)]
def d202:Code:=Option.rec .skip (fun c=>c) Tryz.f202.body
def A6q:Aq:=[]
def A5a:Bb:=[(.root,0)]
def d205:Code:=Option.rec .skip (fun c=>c) Tryz.f205.body
def Bdo:Aq:=[]
structure Ayt where
 a0:AV→H→Prop
def Aeg(c:CF)(k:KV)(_J:Ayt)(v_0:AV)(h:H):Prop:=
 oK (Ag v_0 h) fun v1 h2=>
 Ac 0 v1 fun v3=>
 c (.func 240) [v3] h2 fun v4 h5=>
 asI .i64 v4 fun n6=>
 k (.int .i64 n6) h5
def Bki:Ayt:=⟨fun _ _=>False⟩
def Atu(c:CF)(k:KV)(m:Nat):Ayt:=Nat.rec Bki (fun _ J=>⟨Aeg c k J⟩) m
def f205(J:Ayt):Jump:=fun L f h=>match L with
 |0=>J.a0 (f 0) h
 |_=>False
def Bcw:Bb:=[(.root,0)]
def d206:Code:=Option.rec .skip (fun c=>c) Tryz.f206.body
def Bdn:Aq:=[]
structure Ays where
 a0:AV→Int→Int→H→Prop
def Aef(c:CF)(k:KV)(_J:Ays)(v_0:AV)(n_1 n_2:Int)(h:H):Prop:=
 oK (Ag v_0 h) fun v1 h2=>
 Ac 0 v1 fun v3=>
 c (.func 241) [v3,(.int .i64 n_1),(.int .i64 n_2)] h2 fun v4 h5=>
 asB v4 fun b6=>
 k (.bool b6) h5
def Bkh:Ays:=⟨fun _ _ _ _=>False⟩
def Att(c:CF)(k:KV)(m:Nat):Ays:=Nat.rec Bkh (fun _ J=>⟨Aef c k J⟩) m
def f206(J:Ays):Jump:=fun L f h=>match L with
 |0=>asI .i64 (f 1) fun n_1=>asI .i64 (f 2) fun n_2=>J.a0 (f 0) n_1 n_2 h
 |_=>False
def Bcv:Bb:=[(.root,0)]
def d208:Code:=Option.rec .skip (fun c=>c) Tryz.f208.body
def A6p:Aq:=[]
structure Al1 where
 a0:AV→H→Prop
 a1:AV→AV→Int→Int→H→Prop
def Aee(_c:CF)(_k:KV)(J:Al1)(v_0:AV)(h:H):Prop:=
 oK (Ap env 32 (fun e ei=>Ak 5 [(0,(.str 0 0)),(1,(.str 1 76)),(2,(.str 1 117)),(3,(.str 1 85)),(4,(.str 2 14453))] h e ei)) fun v1 h2=>
 Cz v1 fun m3=>
 J.a1 v_0 v1 (Int.ofNat m3) (Int.ofNat 0) h2
def Aed(c:CF)(k:KV)(J:Al1)(v_0 v_6:AV)(n_7 n_8:Int)(h:H):Prop:=
 cnd (Ca n_8 n_7)
 (Ce n_8 fun m4=>
 Cc 1 m4 v_6 fun v5=>
 ld1 v5 h fun v6=>
 asS v6 fun l7 c8=>
 c (.func 167) [v_0,(.int .i64 (Int.ofNat l7))] h fun v9 h10=>
 asI .u8 v9 fun n11=>
 c (.func 164) [v_0,(.str l7 c8)] h10 fun v12 h13=>
 asB v12 fun b14=>
 Ay (fun k15=>gate true b14
 (Ay (fun k18=>gate false (Bx n11 (Int.ofNat 34))
 (Ay (fun k21=>gate true (Bx n11 (Int.ofNat 39))
 (k21 (Ci (Dv l7 c8 2 14453)) h13)
 (k21 false h13)) fun b23 h22=>
 k18 b23 h22)
 (k18 true h13)) fun b20 h19=>
 k15 b20 h19)
 (k15 false h13)) fun b17 h16=>
 cnd b17
 (k (.int .i64 (Int.ofNat l7)) h16)
 (fI (wrap .i64 (Bq n_8 (Int.ofNat 1))) fun n24=>
 J.a1 v_0 v_6 n_7 n24 h16))
 (k (.int .i64 (Int.negSucc 0)) h)
def Bkg:Al1:=⟨fun _ _=>False,fun _ _ _ _ _=>False⟩
def Aht(c:CF)(k:KV)(m:Nat):Al1:=Nat.rec Bkg (fun _ J=>⟨Aee c k J,Aed c k J⟩) m
def f208(J:Al1):Jump:=fun L f h=>match L with
 |0=>J.a0 (f 0) h
 |1=>asI .i64 (f 7) fun n_7=>asI .i64 (f 8) fun n_8=>J.a1 (f 0) (f 6) n_7 n_8 h
 |_=>False
def A49:Bb:=[(.root,0),((.l (.r (.l (.r .root)))),1)]
def d209:Code:=Option.rec .skip (fun c=>c) Tryz.f209.body
def Az8:Aq:=[(3,[0,1,2,3,4,5,6,7,8,9,10,11]),(9,[0,1,2,3,4,5,6,7,8,9,10,11,12,13,14,15,16,17,18,19])]
structure Ag3 where
 a0:AV→Int→H→Prop
 a1:AV→Int→Int→H→Prop
 a2:AV→Int→Int→H→Prop
def Aec(c:CF)(_k:KV)(J:Ag3)(v_0:AV)(n_1:Int)(h:H):Prop:=
 c (.func 167) [v_0,(.int .i64 n_1)] h fun v1 h2=>
 asI .u8 v1 fun n3=>
 fI (wrap .i64 (Bq n_1 (Int.ofNat 1))) fun n4=>
 J.a1 v_0 n3 n4 h2
def Aeb(c:CF)(k:KV)(J:Ag3)(v_0:AV)(n_5 n_6:Int)(h:H):Prop:=
 oK (Ag v_0 h) fun v5 h6=>
 Ac 2 v5 fun v7=>
 ld1 v7 h6 fun v8=>
 asI .i64 v8 fun n9=>
 fI (wrap .i64 (Bq n9 n_6)) fun n10=>
 oK (Ag v_0 h6) fun v11 h12=>
 Ac 1 v11 fun v13=>
 ld1 v13 h12 fun v14=>
 Cz v14 fun m15=>
 cnd (Ca n10 (Int.ofNat m15))
 (c (.func 167) [v_0,(.int .i64 n_6)] h12 fun v16 h17=>
 asI .u8 v16 fun n18=>
 cnd (Bx n18 (Int.ofNat 10))
 (k (.int .i64 (Int.ofNat 0)) h17)
 (cnd (Bx n18 (Int.ofNat 92))
 (oK (Ag v_0 h17) fun v19 h20=>
 Ac 2 v19 fun v21=>
 ld1 v21 h20 fun v22=>
 asI .i64 v22 fun n23=>
 fI (wrap .i64 (Bq n23 n_6)) fun n24=>
 fI (wrap .i64 (Bq n24 (Int.ofNat 1))) fun n25=>
 oK (Ag v_0 h20) fun v26 h27=>
 Ac 1 v26 fun v28=>
 ld1 v28 h27 fun v29=>
 Cz v29 fun m30=>
 Ay (fun k31=>gate true (Ca n25 (Int.ofNat m30))
 (fI (wrap .i64 (Bq n_6 (Int.ofNat 1))) fun n34=>
 c (.func 167) [v_0,(.int .i64 n34)] h27 fun v35 h36=>
 asI .u8 v35 fun n37=>
 k31 (Bx n37 (Int.ofNat 10)) h36)
 (k31 false h27)) fun b33 h32=>
 cnd b33
 (k (.int .i64 (Int.ofNat 0)) h32)
 (fI (wrap .i64 (Bq n_6 (Int.ofNat 1))) fun n38=>
 J.a2 v_0 n_5 n38 h32))
 (cnd (Bx n18 n_5)
 (fI (wrap .i64 (Bq n_6 (Int.ofNat 1))) fun n39=>
 k (.int .i64 n39) h17)
 (J.a2 v_0 n_5 n_6 h17))))
 (k (.int .i64 (Int.ofNat 0)) h12)
def Aea(_c:CF)(_k:KV)(J:Ag3)(v_0:AV)(n_5 n_6:Int)(h:H):Prop:=
 fI (wrap .i64 (Bq n_6 (Int.ofNat 1))) fun n40=>
 J.a1 v_0 n_5 n40 h
def Bkf:Ag3:=⟨fun _ _ _=>False,fun _ _ _ _=>False,fun _ _ _ _=>False⟩
def Zy(c:CF)(k:KV)(m:Nat):Ag3:=Nat.rec Bkf (fun _ J=>⟨Aec c k J,Aeb c k J,Aea c k J⟩) m
def f209(J:Ag3):Jump:=fun L f h=>match L with
 |0=>asI .i64 (f 1) fun n_1=>J.a0 (f 0) n_1 h
 |1=>asI .u8 (f 5) fun n_5=>asI .i64 (f 6) fun n_6=>J.a1 (f 0) n_5 n_6 h
 |2=>asI .u8 (f 5) fun n_5=>asI .i64 (f 6) fun n_6=>J.a2 (f 0) n_5 n_6 h
 |_=>False
def Azd:Bb:=[(.root,0),((.l (.r (.l (.r (.r .root))))),1),((.r (.r (.l (.l (.r (.l (.r (.r .root)))))))),2)]
def d215:Code:=Option.rec .skip (fun c=>c) Tryz.f215.body
def A6o:Aq:=[]
def A48:Bb:=[(.root,0)]
def d216:Code:=Option.rec .skip (fun c=>c) Tryz.f216.body
def A6n:Aq:=[]
def A47:Bb:=[(.root,0)]
def d218:Code:=Option.rec .skip (fun c=>c) Tryz.f218.body
def A6m:Aq:=[]
def A46:Bb:=[(.root,0),((.l (.r (.l (.r .root)))),1)]
def d223:Code:=Option.rec .skip (fun c=>c) Tryz.f223.body
def A6l:Aq:=[]
def A45:Bb:=[(.root,0)]
def d224:Code:=Option.rec .skip (fun c=>c) Tryz.f224.body
def A6k:Aq:=[]
structure Ayr where
 a0:AV→H→Prop
def Atj(c:CF)(k:KV)(_J:Ayr)(v_0:AV)(h:H):Prop:=
 oK (Ag v_0 h) fun v1 h2=>
 Ac 0 v1 fun v3=>
 c (.func 250) [v3] h2 fun _ h5=>
 k (.tuple []) h5
def Bke:Ayr:=⟨fun _ _=>False⟩
def Akg(c:CF)(k:KV)(m:Nat):Ayr:=Nat.rec Bke (fun _ J=>⟨Atj c k J⟩) m
def f224(J:Ayr):Jump:=fun L f h=>match L with
 |0=>J.a0 (f 0) h
 |_=>False
def A44:Bb:=[(.root,0)]
def d225:Code:=Option.rec .skip (fun c=>c) Tryz.f225.body
def A6j:Aq:=[(0,[0,1,2,3,4,5])]
structure Ayq where
 a0:AV→Bool→H→Prop
def Ati(c:CF)(k:KV)(_J:Ayq)(v_0:AV)(b_1:Bool)(h:H):Prop:=
 oK (Ag v_0 h) fun v1 h2=>
 Ac 0 v1 fun v3=>
 c (.func 252) [(.bool b_1)] h2 fun v4 h5=>
 asI .u32 v4 fun n6=>
 c (.func 251) [v3,(.int .u32 n6)] h5 fun _ h8=>
 k (.tuple []) h8
def Bkd:Ayq:=⟨fun _ _ _=>False⟩
def Akf(c:CF)(k:KV)(m:Nat):Ayq:=Nat.rec Bkd (fun _ J=>⟨Ati c k J⟩) m
def f225(J:Ayq):Jump:=fun L f h=>match L with
 |0=>asB (f 1) fun b_1=>J.a0 (f 0) b_1 h
 |_=>False
def A43:Bb:=[(.root,0)]
def d235:Code:=Option.rec .skip (fun c=>c) Tryz.f235.body
def A6i:Aq:=[(1,[0,1,2,3,4,5,6,7,8,9,10,11,12,13,14,15])]
def A42:Bb:=[(.root,0)]
def d236:Code:=Option.rec .skip (fun c=>c) Tryz.f236.body
def A6h:Aq:=[(1,[0,1,3,4,2,6,5,7,8,9])]
def A41:Bb:=[(.root,0)]
def d249:Code:=Option.rec .skip (fun c=>c) Tryz.f249.body
def A6g:Aq:=[]
def A40:Bb:=[(.root,0)]
def d250:Code:=Option.rec .skip (fun c=>c) Tryz.f250.body
def A6f:Aq:=[]
def A4z:Bb:=[(.root,0),((.r .root),1)]
def d252:Code:=Option.rec .skip (fun c=>c) Tryz.f252.body
def A6e:Aq:=[]
def A4y:Bb:=[(.root,0)]
end Go.Den
