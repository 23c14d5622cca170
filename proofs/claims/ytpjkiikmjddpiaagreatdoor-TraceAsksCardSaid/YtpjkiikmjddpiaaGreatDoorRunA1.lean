/-
  A part of the proof: the functions, in pieces.
-/
import Derived.Test.YtpjkiikmjddpiaaGreatDoorRunA
namespace Go.Den
set_option maxRecDepth 100000
noncomputable def d3:Code:=Option.rec .skip (fun c=>c) Go.Proofs.Tryz.f3.body
noncomputable def q3:Plans:=[(16,[0,1,2,3,4,5,6,7,8,9,10,11,12,13,15,16,17,18,19,14,20,21,22,23,24,25,26,27,29,28,30,31])]
structure J3 where
  a0:AV→AV→AV→H→Prop
  a1:AV→AV→AV→AV→AV→Int→H→Prop
  a2:AV→AV→AV→AV→AV→Int→Nat→Nat→Bool→Nat→Nat→Bool→AV→H→Prop
  a3:AV→AV→AV→AV→AV→Int→H→Prop
noncomputable def s3_0 (c:Caller Prop FT) (k:KV) (J:J3) (v_0:AV) (v_1:AV) (v_2:AV) (h:H):Prop:=
 asG v_2 fun g1=>
 chk (Nat.ble 1 (len g1))<|
 Hp.newK h (rowOf 25 g1) fun p2 h3=>
 c (.func 5) [.nils,v_0] h3 fun v4 h5=>
 asB v4 fun b6=>
 joinB (fun k7=>gate false (bnot b6)
 (c (.func 6) [v_1,(.int .i64 (Int.ofNat 40))] h5 fun v10 h11=>
 asB v10 fun b12=>
 k7 (bnot b12) h11)
 (k7 true h5)) fun b9 h8=>
 cnd b9
 (c (.func 7) [] h8 fun v13 h14=>
 asB v13 fun b15=>
 k (.bool b15) h14)
 (c (.func 8) [.nils,v_0] h8 fun v16 h17=>
 ext 0 v16 fun v18=>
 ext 1 v16 fun v19=>
 ext 2 v16 fun v20=>
 asB v20 fun b21=>
 cnd (bnot b21)
 (k (.bool false) h17)
 (J.a1 v_1 (.ptr p2 0) v18 v19 .nils (Int.ofNat 0) h17))
noncomputable def s3_1 (c:Caller Prop FT) (k:KV) (J:J3) (v_1:AV) (v_5:AV) (v_7:AV) (v_8:AV) (v_10:AV) (n_11:Int) (h:H):Prop:=
 lenV v_1 fun m22=>
 cnd (iblt n_11 (Int.ofNat m22))
 (natI n_11 fun m23=>
 elemA 8 m23 v_1 fun v24=>
 ldn 8 v24 h fun v25=>
 c (.func 9) [v_7,v25] h fun v26 h27=>
 ext 0 v26 fun v28=>
 asS v28 fun l29 c30=>
 ext 1 v26 fun v31=>
 asB v31 fun b32=>
 natI n_11 fun m33=>
 elemA 8 m33 v_1 fun v34=>
 fAddr 3 v34 fun v35=>
 ldn 3 v35 h27 fun v36=>
 c (.func 10) [v_8,v36] h27 fun v37 h38=>
 ext 0 v37 fun v39=>
 asS v39 fun l40 c41=>
 ext 1 v37 fun v42=>
 asB v42 fun b43=>
 natI n_11 fun m44=>
 elemA 8 m44 v_1 fun v45=>
 fAddr 3 v45 fun v46=>
 ldn 3 v46 h38 fun v47=>
 Hp.newK h38 ob25 fun p48 h49=>
 stn 3 (.ptr p48 0) v47 h49 fun h50=>
 natI n_11 fun m51=>
 elemA 8 m51 v_1 fun v52=>
 fAddr 7 v52 fun v53=>
 ld1 v53 h50 fun v54=>
 lenV v54 fun m55=>
 cnd (iblt (Int.ofNat 0) (Int.ofNat m55))
 (natI n_11 fun m56=>
 elemA 8 m56 v_1 fun v57=>
 fAddr 7 v57 fun v58=>
 ld1 v58 h50 fun v59=>
 fI (wrap .i64 (isub (Int.ofNat m55) (Int.ofNat 1))) fun n60=>
 natI n60 fun m61=>
 elemA 5 m61 v59 fun v62=>
 fAddr 1 v62 fun v63=>
 ldn 3 v63 h50 fun v64=>
 stn 3 (.ptr p48 0) v64 h50 fun h65=>
 J.a2 v_1 v_5 v_7 v_8 v_10 n_11 l29 c30 b32 l40 c41 b43 (.ptr p48 0) h65)
 (J.a2 v_1 v_5 v_7 v_8 v_10 n_11 l29 c30 b32 l40 c41 b43 (.ptr p48 0) h50))
 (oK (exBuild env (env.ty 50) [(0,v_1)] h) fun v66 h67=>
 ldn 3 v_5 h67 fun v68=>
 c (.func 15) [v66,v68] h67 fun v69 h70=>
 c (.func 14) [v69,v_10] h70 fun v71 h72=>
 asB v71 fun b73=>
 joinB (fun k74=>gate true b73
 (c (.func 7) [] h72 fun v77 h78=>
 asB v77 fun b79=>
 k74 b79 h78)
 (k74 false h72)) fun b76 h75=>
 k (.bool b76) h75)
noncomputable def s3_2 (c:Caller Prop FT) (k:KV) (J:J3) (v_1:AV) (v_5:AV) (v_7:AV) (v_8:AV) (v_10:AV) (n_11:Int) (l_12:Nat) (c_12:Nat) (b_13:Bool) (l_14:Nat) (c_14:Nat) (b_15:Bool) (v_16:AV) (h:H):Prop:=
 joinB (fun k80=>gate false (bnot (strEq l_12 c_12 l_14 c_14))
 (oV (binA env .neq 4 (.bool b_13) (.bool b_15)) fun v83=>
 asB v83 fun b84=>
 k80 b84 h)
 (k80 true h)) fun b82 h81=>
 joinB (fun k85=>gate false b82
 (natI n_11 fun m88=>
 elemA 8 m88 v_1 fun v89=>
 ldn 8 v89 h81 fun v90=>
 natI n_11 fun m91=>
 elemA 8 m91 v_1 fun v92=>
 ldn 8 v92 h81 fun v93=>
 c (.func 11) [v_7,v90] h81 fun v94 h95=>
 asB v94 fun b96=>
 ldn 8 v92 h95 fun v97=>
 eqC v97 v93<|
 c (.func 12) [v_8,v93] h95 fun v98 h99=>
 asB v98 fun b100=>
 oV (binA env .neq 4 (.bool b96) (.bool b100)) fun v101=>
 asB v101 fun b102=>
 k85 b102 h99)
 (k85 true h81)) fun b87 h86=>
 joinB (fun k103=>gate false b87
 (natI n_11 fun m106=>
 elemA 8 m106 v_1 fun v107=>
 ldn 8 v107 h86 fun v108=>
 ldn 3 v_16 h86 fun v109=>
 c (.func 13) [v108] h86 fun v110 h111=>
 ldn 3 v_16 h111 fun v112=>
 eqC v112 v109<|
 oV (binA env .neq 25 v110 v109) fun v113=>
 asB v113 fun b114=>
 k103 b114 h111)
 (k103 true h86)) fun b105 h104=>
 cnd b105
 (k (.bool false) h104)
 (fAddr 0 v_16 fun v115=>
 ld1 v115 h104 fun v116=>
 asS v116 fun l117 c118=>
 fAddr 0 v_5 fun v119=>
 ld1 v119 h104 fun v120=>
 asS v120 fun l121 c122=>
 joinB (fun k123=>gate true (strEq l117 c118 l121 c122)
 (fAddr 1 v_16 fun v126=>
 ld1 v126 h104 fun v127=>
 asI .i64 v127 fun n128=>
 fAddr 2 v_5 fun v129=>
 ld1 v129 h104 fun v130=>
 asI .i64 v130 fun n131=>
 k123 (iblt n128 n131) h104)
 (k123 false h104)) fun b125 h124=>
 joinB (fun k132=>gate true b125
 (fAddr 2 v_16 fun v135=>
 ld1 v135 h124 fun v136=>
 asI .i64 v136 fun n137=>
 fAddr 1 v_5 fun v138=>
 ld1 v138 h124 fun v139=>
 asI .i64 v139 fun n140=>
 k132 (iblt n140 n137) h124)
 (k132 false h124)) fun b134 h133=>
 cnd b134
 (oK (withElem env 33 (fun e ei=>exBuildSlice 1 [(0,(.int .i64 n_11))] h133 e ei)) fun v141 h142=>
 oK (builtinA env .append [33,33] [v_10,v141] h142) fun v143 h144=>
 J.a3 v_1 v_5 v_7 v_8 v143 n_11 h144)
 (J.a3 v_1 v_5 v_7 v_8 v_10 n_11 h133))
noncomputable def s3_3 (_c:Caller Prop FT) (_k:KV) (J:J3) (v_1:AV) (v_5:AV) (v_7:AV) (v_8:AV) (v_10:AV) (n_11:Int) (h:H):Prop:=
 fI (wrap .i64 (iadd n_11 (Int.ofNat 1))) fun n145=>
 J.a1 v_1 v_5 v_7 v_8 v_10 n145 h
noncomputable def z3:J3:=⟨fun _ _ _ _=>False,fun _ _ _ _ _ _ _=>False,fun _ _ _ _ _ _ _ _ _ _ _ _ _ _=>False,fun _ _ _ _ _ _ _=>False⟩
noncomputable def r3 (c:Caller Prop FT) (k:KV) (m:Nat):J3:=Nat.rec z3 (fun _ J=>⟨s3_0 c k J,s3_1 c k J,s3_2 c k J,s3_3 c k J⟩) m
noncomputable def f3 (J:J3):Jump:=fun L f h=>match L with
  |0=>J.a0 (f 0) (f 1) (f 2) h
  |1=>asI .i64 (f 11) fun n_11=>J.a1 (f 1) (f 5) (f 7) (f 8) (f 10) n_11 h
  |2=>asI .i64 (f 11) fun n_11=>asS (f 12) fun l_12 c_12=>asB (f 13) fun b_13=>asS (f 14) fun l_14 c_14=>asB (f 15) fun b_15=>J.a2 (f 1) (f 5) (f 7) (f 8) (f 10) n_11 l_12 c_12 b_13 l_14 c_14 b_15 (f 16) h
  |3=>asI .i64 (f 11) fun n_11=>J.a3 (f 1) (f 5) (f 7) (f 8) (f 10) n_11 h
  |_=>False
noncomputable def u3:Cuts:=[(.root,0),((.l (.r (.l (.r (.r (.r (.r (.r .root)))))))),1),((.r (.r (.r (.r (.l (.l (.r (.l (.l (.r (.l (.r (.r (.r (.r (.r .root)))))))))))))))),2),((.r (.r (.l (.l (.r (.l (.r (.r (.r (.r (.r .root))))))))))),3)]
noncomputable def d4:Code:=Option.rec .skip (fun c=>c) Go.Proofs.Tryz.f4.body
noncomputable def q4:Plans:=[(22,[0,1,2,3,4,5,6,7,8,9,10,11,12,13,14,15,16,18,19,20,21,22,23,17,24,25])]
structure J4 where
  a0:Nat→Nat→H→Prop
  a1:Nat→Nat→Int→H→Prop
  a2:Nat→Nat→AV→Int→Int→H→Prop
  a3:Nat→Nat→AV→Int→Int→AV→H→Prop
  a4:Nat→Nat→AV→Int→Int→H→Prop
noncomputable def s4_0 (c:Caller Prop FT) (k:KV) (J:J4) (l_0:Nat) (c_0:Nat) (h:H):Prop:=
 cnd (iblt (Int.ofNat 800) (Int.ofNat l_0))
 (c (.func 7) [] h fun v1 h2=>
 asB v1 fun b3=>
 k (.bool b3) h2)
 (J.a1 l_0 c_0 (Int.ofNat 0) h)
noncomputable def s4_1 (c:Caller Prop FT) (k:KV) (J:J4) (l_0:Nat) (c_0:Nat) (n_3:Int) (h:H):Prop:=
 cnd (iblt n_3 (Int.ofNat l_0))
 (natI n_3 fun m4=>
 idxS l_0 c_0 m4 fun m5=>
 joinB (fun k6=>gate false (ibeq (Int.ofNat m5) (Int.ofNat 35))
 (natI n_3 fun m9=>
 idxS l_0 c_0 m9 fun m10=>
 k6 (ibeq (Int.ofNat m10) (Int.ofNat 37)) h)
 (k6 true h)) fun b8 h7=>
 joinB (fun k11=>gate false b8
 (natI n_3 fun m14=>
 idxS l_0 c_0 m14 fun m15=>
 k11 (ibeq (Int.ofNat m15) (Int.ofNat 63)) h7)
 (k11 true h7)) fun b13 h12=>
 joinB (fun k16=>gate false b13
 (natI n_3 fun m19=>
 idxS l_0 c_0 m19 fun m20=>
 k16 (ibeq (Int.ofNat m20) (Int.ofNat 92)) h12)
 (k16 true h12)) fun b18 h17=>
 joinB (fun k21=>gate false b18
 (natI n_3 fun m24=>
 idxS l_0 c_0 m24 fun m25=>
 k21 (ibeq (Int.ofNat m25) (Int.ofNat 95)) h17)
 (k21 true h17)) fun b23 h22=>
 cnd b23
 (c (.func 7) [] h22 fun v26 h27=>
 asB v26 fun b28=>
 k (.bool b28) h27)
 (fI (wrap .i64 (iadd n_3 (Int.ofNat 1))) fun n29=>
 J.a1 l_0 c_0 n29 h22))
 (oK (exBuild env (env.ty 53) [(0,(.str 3 6499937)),(1,(.str l_0 c_0))] h) fun v30 h31=>
 oK (withElem env 22 (fun e ei=>exBuildSlice 1 [(0,v30)] h31 e ei)) fun v32 h33=>
 c (.func 8) [.nils,v32] h33 fun v34 h35=>
 ext 0 v34 fun v36=>
 ext 1 v34 fun _=>
 ext 2 v34 fun v38=>
 asB v38 fun b39=>
 cnd (bnot b39)
 (k (.bool false) h35)
 (oK (exBuild env (env.ty 56) [(1,(.int .i64 (Int.ofNat 1))),(2,(.int .i64 (Int.ofNat 3000)))] h35) fun v40 h41=>
 c (.func 16) [v36,(.str 3 6499937),v40] h41 fun v42 h43=>
 Hp.newK h43 ob50 fun p44 h45=>
 stn 5 (.ptr p44 0) v42 h45 fun h46=>
 J.a2 l_0 c_0 (.ptr p44 0) (Int.ofNat 0) (Int.ofNat 0) h46))
noncomputable def s4_2 (c:Caller Prop FT) (k:KV) (J:J4) (l_0:Nat) (c_0:Nat) (v_7:AV) (n_8:Int) (n_9:Int) (h:H):Prop:=
 cnd (iblt n_9 (Int.ofNat l_0))
 (ldn 5 v_7 h fun v47=>
 fI (wrap .i64 (iadd n_9 (Int.ofNat 1))) fun n48=>
 oK (exBuild env (env.ty 25) [(0,(.str 3 6499937)),(1,(.int .i64 n_9)),(2,(.int .i64 n48))] h) fun v49 h50=>
 c (.func 15) [v47,v49] h50 fun v51 h52=>
 J.a3 l_0 c_0 v_7 n_8 n_9 v51 h52)
 (fAddr 4 v_7 fun v53=>
 ld1 v53 h fun v54=>
 asB v54 fun b55=>
 joinB (fun k56=>gate true (bnot b55)
 (c (.func 7) [] h fun v59 h60=>
 asB v59 fun b61=>
 k56 b61 h60)
 (k56 false h)) fun b58 h57=>
 k (.bool b58) h57)
noncomputable def s4_3 (c:Caller Prop FT) (k:KV) (J:J4) (l_0:Nat) (c_0:Nat) (v_7:AV) (n_8:Int) (n_9:Int) (v_10:AV) (h:H):Prop:=
 fAddr 0 v_7 fun v62=>
 ld1 v62 h fun v63=>
 lenV v63 fun m64=>
 joinB (fun k65=>gate true (iblt n_8 (Int.ofNat m64))
 (fAddr 0 v_7 fun v68=>
 ld1 v68 h fun v69=>
 natI n_8 fun m70=>
 elemA 8 m70 v69 fun v71=>
 fAddr 3 v71 fun v72=>
 fAddr 2 v72 fun v73=>
 ld1 v73 h fun v74=>
 asI .i64 v74 fun n75=>
 k65 (ible n75 n_9) h)
 (k65 false h)) fun b67 h66=>
 cnd b67
 (fI (wrap .i64 (iadd n_8 (Int.ofNat 1))) fun n76=>
 J.a3 l_0 c_0 v_7 n76 n_9 v_10 h66)
 (fAddr 0 v_7 fun v77=>
 ld1 v77 h66 fun v78=>
 lenV v78 fun m79=>
 joinB (fun k80=>gate true (iblt n_8 (Int.ofNat m79))
 (fAddr 0 v_7 fun v83=>
 ld1 v83 h66 fun v84=>
 natI n_8 fun m85=>
 elemA 8 m85 v84 fun v86=>
 fAddr 3 v86 fun v87=>
 fAddr 1 v87 fun v88=>
 ld1 v88 h66 fun v89=>
 asI .i64 v89 fun n90=>
 k80 (ible n90 n_9) h66)
 (k80 false h66)) fun b82 h81=>
 joinB (fun k91=>gate true b82
 (oK (withElem env 33 (fun e ei=>exBuildSlice 1 [(0,(.int .i64 n_8))] h81 e ei)) fun v94 h95=>
 c (.func 14) [v_10,v94] h95 fun v96 h97=>
 asB v96 fun b98=>
 k91 (bnot b98) h97)
 (k91 false h81)) fun b93 h92=>
 joinB (fun k99=>gate false b93
 (joinB (fun k102=>gate true (bnot b82)
 (lenV v_10 fun m105=>
 k102 (bnot (ibeq (Int.ofNat m105) (Int.ofNat 0))) h92)
 (k102 false h92)) fun b104 h103=>
 k99 b104 h103)
 (k99 true h92)) fun b101 h100=>
 cnd b101
 (k (.bool false) h100)
 (joinB (fun k106=>gate true b82
 (fAddr 0 v_7 fun v109=>
 ld1 v109 h100 fun v110=>
 natI n_8 fun m111=>
 elemA 8 m111 v110 fun v112=>
 fAddr 3 v112 fun v113=>
 fAddr 1 v113 fun v114=>
 ld1 v114 h100 fun v115=>
 asI .i64 v115 fun n116=>
 fAddr 0 v_7 fun v117=>
 ld1 v117 h100 fun v118=>
 natI n_8 fun m119=>
 elemA 8 m119 v118 fun v120=>
 fAddr 3 v120 fun v121=>
 fAddr 2 v121 fun v122=>
 ld1 v122 h100 fun v123=>
 asI .i64 v123 fun n124=>
 fAddr 0 v_7 fun v125=>
 ld1 v125 h100 fun v126=>
 natI n_8 fun m127=>
 elemA 8 m127 v126 fun v128=>
 fAddr 1 v128 fun v129=>
 ld1 v129 h100 fun v130=>
 asS v130 fun l131 c132=>
 c (.func 17) [(.str l_0 c_0),(.int .i64 n116),(.int .i64 n124)] h100 fun v133 h134=>
 asS v133 fun l135 c136=>
 ld1 v125 h134 fun v137=>
 eqC v137 v126<|
 ld1 v129 h134 fun v138=>
 asS v138 fun l139 c140=>
 eqC (.str l139 c140) (.str l131 c132)<|
 k106 (bnot (strEq l135 c136 l131 c132)) h134)
 (k106 false h100)) fun b108 h107=>
 cnd b108
 (k (.bool false) h107)
 (J.a4 l_0 c_0 v_7 n_8 n_9 h107)))
noncomputable def s4_4 (_c:Caller Prop FT) (_k:KV) (J:J4) (l_0:Nat) (c_0:Nat) (v_7:AV) (n_8:Int) (n_9:Int) (h:H):Prop:=
 fI (wrap .i64 (iadd n_9 (Int.ofNat 1))) fun n141=>
 J.a2 l_0 c_0 v_7 n_8 n141 h
noncomputable def z4:J4:=⟨fun _ _ _=>False,fun _ _ _ _=>False,fun _ _ _ _ _ _=>False,fun _ _ _ _ _ _ _=>False,fun _ _ _ _ _ _=>False⟩
noncomputable def r4 (c:Caller Prop FT) (k:KV) (m:Nat):J4:=Nat.rec z4 (fun _ J=>⟨s4_0 c k J,s4_1 c k J,s4_2 c k J,s4_3 c k J,s4_4 c k J⟩) m
noncomputable def f4 (J:J4):Jump:=fun L f h=>match L with
  |0=>asS (f 0) fun l_0 c_0=>J.a0 l_0 c_0 h
  |1=>asS (f 0) fun l_0 c_0=>asI .i64 (f 3) fun n_3=>J.a1 l_0 c_0 n_3 h
  |2=>asS (f 0) fun l_0 c_0=>asI .i64 (f 8) fun n_8=>asI .i64 (f 9) fun n_9=>J.a2 l_0 c_0 (f 7) n_8 n_9 h
  |3=>asS (f 0) fun l_0 c_0=>asI .i64 (f 8) fun n_8=>asI .i64 (f 9) fun n_9=>J.a3 l_0 c_0 (f 7) n_8 n_9 (f 10) h
  |4=>asS (f 0) fun l_0 c_0=>asI .i64 (f 8) fun n_8=>asI .i64 (f 9) fun n_9=>J.a4 l_0 c_0 (f 7) n_8 n_9 h
  |_=>False
noncomputable def u4:Cuts:=[(.root,0),((.l (.r (.l (.r (.r .root))))),1),((.l (.r (.l (.r (.r (.r (.r (.r (.r (.r .root)))))))))),2),((.l (.l (.r (.l (.l (.r (.l (.l (.r (.l (.r (.r (.r (.r (.r (.r (.r .root))))))))))))))))),3),((.r (.r (.l (.l (.r (.l (.r (.r (.r (.r (.r (.r (.r .root))))))))))))),4)]
noncomputable def d5:Code:=Option.rec .skip (fun c=>c) Go.Proofs.Tryz.f5.body
noncomputable def q5:Plans:=[]
structure J5 where
  a0:AV→AV→H→Prop
  a1:AV→AV→Int→Int→H→Prop
noncomputable def s5_0 (_c:Caller Prop FT) (_k:KV) (J:J5) (v_0:AV) (v_1:AV) (h:H):Prop:=
 J.a1 v_0 v_1 (Int.ofNat 0) (Int.ofNat 0) h
noncomputable def s5_1 (c:Caller Prop FT) (k:KV) (J:J5) (v_0:AV) (v_1:AV) (n_5:Int) (n_6:Int) (h:H):Prop:=
 lenV v_1 fun m1=>
 joinB (fun k2=>gate true (iblt n_6 (Int.ofNat m1))
 (k2 (iblt n_6 (Int.ofNat 12)) h)
 (k2 false h)) fun b4 h3=>
 cnd b4
 (natI n_6 fun m5=>
 elemA 2 m5 v_1 fun v6=>
 fAddr 0 v6 fun v7=>
 ld1 v7 h3 fun v8=>
 asS v8 fun l9 _=>
 joinB (fun k11=>gate false (iblt (Int.ofNat 100) (Int.ofNat l9))
 (natI n_6 fun m14=>
 elemA 2 m14 v_1 fun v15=>
 fAddr 1 v15 fun v16=>
 ld1 v16 h3 fun v17=>
 asS v17 fun l18 _=>
 k11 (iblt (Int.ofNat 1500) (Int.ofNat l18)) h3)
 (k11 true h3)) fun b13 h12=>
 cnd b13
 (k (.bool false) h12)
 (natI n_6 fun m20=>
 elemA 2 m20 v_1 fun v21=>
 fAddr 1 v21 fun v22=>
 ld1 v22 h12 fun v23=>
 asS v23 fun l24 _=>
 fI (wrap .i64 (iadd n_5 (Int.ofNat l24))) fun n26=>
 fI (wrap .i64 (iadd n_6 (Int.ofNat 1))) fun n27=>
 J.a1 v_0 v_1 n26 n27 h12))
 (lenV v_1 fun m28=>
 joinB (fun k29=>gate true (ible (Int.ofNat m28) (Int.ofNat 8))
 (k29 (ible n_5 (Int.ofNat 3000)) h3)
 (k29 false h3)) fun b31 h30=>
 joinB (fun k32=>gate true b31
 (c (.func 18) [v_0,(.int .i64 (Int.ofNat 200))] h30 fun v35 h36=>
 asB v35 fun b37=>
 k32 b37 h36)
 (k32 false h30)) fun b34 h33=>
 joinB (fun k38=>gate true b34
 (c (.func 19) [v_0] h33 fun v41 h42=>
 asB v41 fun b43=>
 k38 b43 h42)
 (k38 false h33)) fun b40 h39=>
 k (.bool b40) h39)
noncomputable def z5:J5:=⟨fun _ _ _=>False,fun _ _ _ _ _=>False⟩
noncomputable def r5 (c:Caller Prop FT) (k:KV) (m:Nat):J5:=Nat.rec z5 (fun _ J=>⟨s5_0 c k J,s5_1 c k J⟩) m
noncomputable def f5 (J:J5):Jump:=fun L f h=>match L with
  |0=>J.a0 (f 0) (f 1) h
  |1=>asI .i64 (f 5) fun n_5=>asI .i64 (f 6) fun n_6=>J.a1 (f 0) (f 1) n_5 n_6 h
  |_=>False
noncomputable def u5:Cuts:=[(.root,0),((.l (.r (.l (.r (.r .root))))),1)]
noncomputable def d6:Code:=Option.rec .skip (fun c=>c) Go.Proofs.Tryz.f6.body
noncomputable def q6:Plans:=[]
structure J6 where
  a0:AV→Int→H→Prop
  a1:AV→Int→H→Prop
noncomputable def s6_0 (_c:Caller Prop FT) (k:KV) (J:J6) (v_0:AV) (n_1:Int) (h:H):Prop:=
 lenV v_0 fun m1=>
 cnd (iblt n_1 (Int.ofNat m1))
 (k (.bool false) h)
 (J.a1 v_0 (Int.ofNat 0) h)
noncomputable def s6_1 (_c:Caller Prop FT) (k:KV) (J:J6) (v_0:AV) (n_5:Int) (h:H):Prop:=
 lenV v_0 fun m2=>
 cnd (iblt n_5 (Int.ofNat m2))
 (natI n_5 fun m3=>
 elemA 8 m3 v_0 fun v4=>
 fAddr 1 v4 fun v5=>
 ld1 v5 h fun v6=>
 asS v6 fun l7 _=>
 joinB (fun k9=>gate false (iblt (Int.ofNat 300) (Int.ofNat l7))
 (natI n_5 fun m12=>
 elemA 8 m12 v_0 fun v13=>
 fAddr 7 v13 fun v14=>
 ld1 v14 h fun v15=>
 lenV v15 fun m16=>
 k9 (iblt (Int.ofNat 20) (Int.ofNat m16)) h)
 (k9 true h)) fun b11 h10=>
 cnd b11
 (k (.bool false) h10)
 (fI (wrap .i64 (iadd n_5 (Int.ofNat 1))) fun n17=>
 J.a1 v_0 n17 h10))
 (k (.bool true) h)
noncomputable def z6:J6:=⟨fun _ _ _=>False,fun _ _ _=>False⟩
noncomputable def r6 (c:Caller Prop FT) (k:KV) (m:Nat):J6:=Nat.rec z6 (fun _ J=>⟨s6_0 c k J,s6_1 c k J⟩) m
noncomputable def f6 (J:J6):Jump:=fun L f h=>match L with
  |0=>asI .i64 (f 1) fun n_1=>J.a0 (f 0) n_1 h
  |1=>asI .i64 (f 5) fun n_5=>J.a1 (f 0) n_5 h
  |_=>False
noncomputable def u6:Cuts:=[(.root,0),((.l (.r (.l (.r (.r .root))))),1)]
noncomputable def d7:Code:=Option.rec .skip (fun c=>c) Go.Proofs.Tryz.f7.body
noncomputable def q7:Plans:=[]
structure J7 where
  a0:H→Prop
noncomputable def s7_0 (c:Caller Prop FT) (k:KV) (_J:J7) (h:H):Prop:=
 oK (exBuild env (env.ty 53) [(0,(.str 3 6499937)),(1,(.str 14 212334716821682482705569797202979))] h) fun v1 h2=>
 oK (withElem env 22 (fun e ei=>exBuildSlice 1 [(0,v1)] h2 e ei)) fun v3 h4=>
 c (.func 8) [.nils,v3] h4 fun v5 h6=>
 ext 0 v5 fun v7=>
 ext 1 v5 fun _=>
 ext 2 v5 fun v9=>
 asB v9 fun b10=>
 cnd (bnot b10)
 (k (.bool false) h6)
 (oK (exBuild env (env.ty 56) [(1,(.int .i64 (Int.ofNat 1))),(2,(.int .i64 (Int.ofNat 100)))] h6) fun v11 h12=>
 c (.func 16) [v7,(.str 3 6499937),v11] h12 fun v13 h14=>
 Hp.newK h14 ob50 fun p15 h16=>
 stn 5 (.ptr p15 0) v13 h16 fun h17=>
 fAddr 0 (.ptr p15 0) fun v18=>
 ld1 v18 h17 fun v19=>
 lenV v19 fun m20=>
 cnd (bnot (ibeq (Int.ofNat m20) (Int.ofNat 1)))
 (k (.bool false) h17)
 (fAddr 0 (.ptr p15 0) fun v21=>
 ld1 v21 h17 fun v22=>
 elemA 8 0 v22 fun v23=>
 ldn 8 v23 h17 fun v24=>
 c (.func 9) [v7,v24] h17 fun v25 h26=>
 ext 0 v25 fun v27=>
 asS v27 fun l28 c29=>
 ext 1 v25 fun v30=>
 asB v30 fun b31=>
 oK (exBuild env (env.ty 25) [(0,(.str 3 6499938))] h26) fun v32 h33=>
 oK (exBuild env (env.ty 38) [(3,v32)] h33) fun v34 h35=>
 c (.func 9) [v7,v34] h35 fun v36 h37=>
 ext 0 v36 fun v38=>
 asS v38 fun _ _=>
 ext 1 v36 fun v41=>
 asB v41 fun b42=>
 ldn 5 (.ptr p15 0) h37 fun v43=>
 oK (exBuild env (env.ty 25) [(0,(.str 3 6499937)),(1,(.int .i64 (Int.ofNat 12))),(2,(.int .i64 (Int.ofNat 13)))] h37) fun v44 h45=>
 c (.func 15) [v43,v44] h45 fun v46 h47=>
 joinB (fun k48=>gate true (strEq l28 c29 1 121)
 (k48 b31 h47)
 (k48 false h47)) fun b50 h49=>
 joinB (fun k51=>gate true b50
 (k51 (bnot b42) h49)
 (k51 false h49)) fun b53 h52=>
 joinB (fun k54=>gate true b53
 (fAddr 0 (.ptr p15 0) fun v57=>
 ld1 v57 h52 fun v58=>
 elemA 8 0 v58 fun v59=>
 ldn 8 v59 h52 fun v60=>
 c (.func 11) [v7,v60] h52 fun v61 h62=>
 asB v61 fun b63=>
 k54 b63 h62)
 (k54 false h52)) fun b56 h55=>
 joinB (fun k64=>gate true b56
 (oK (exBuild env (env.ty 25) [(0,(.str 3 6499937)),(1,(.int .i64 (Int.ofNat 12))),(2,(.int .i64 (Int.ofNat 13)))] h55) fun v67 h68=>
 oK (exBuild env (env.ty 38) [(1,(.str 1 122)),(3,v67)] h68) fun v69 h70=>
 c (.func 11) [v7,v69] h70 fun v71 h72=>
 asB v71 fun b73=>
 k64 (bnot b73) h72)
 (k64 false h55)) fun b66 h65=>
 joinB (fun k74=>gate true b66
 (fAddr 0 (.ptr p15 0) fun v77=>
 ld1 v77 h65 fun v78=>
 elemA 8 0 v78 fun v79=>
 ldn 8 v79 h65 fun v80=>
 c (.func 13) [v80] h65 fun v81 h82=>
 oK (exBuild env (env.ty 25) [(0,(.str 3 6499937)),(1,(.int .i64 (Int.ofNat 12))),(2,(.int .i64 (Int.ofNat 13)))] h82) fun v83 h84=>
 oV (binA env .eql 25 v81 v83) fun v85=>
 asB v85 fun b86=>
 k74 b86 h84)
 (k74 false h65)) fun b76 h75=>
 joinB (fun k87=>gate true b76
 (oK (withElem env 33 (fun e ei=>exBuildSlice 1 [(0,(.int .i64 (Int.ofNat 0)))] h75 e ei)) fun v90 h91=>
 c (.func 14) [v46,v90] h91 fun v92 h93=>
 asB v92 fun b94=>
 k87 b94 h93)
 (k87 false h75)) fun b89 h88=>
 k (.bool b89) h88))
noncomputable def z7:J7:=⟨fun _=>False⟩
noncomputable def r7 (c:Caller Prop FT) (k:KV) (m:Nat):J7:=Nat.rec z7 (fun _ J=>⟨s7_0 c k J⟩) m
noncomputable def f7 (J:J7):Jump:=fun L _ h=>match L with
  |0=>J.a0 h
  |_=>False
noncomputable def u7:Cuts:=[(.root,0)]
noncomputable def d8:Code:=Option.rec .skip (fun c=>c) Go.Proofs.Tryz.f8.body
noncomputable def q8:Plans:=[(8,[0,1,2,3,4,5,6,7,8,9,10,12,13,14,15,16,17,18,19,20,21,22,11,23,24])]
structure J8 where
  a0:AV→AV→H→Prop
  a1:AV→AV→AV→Int→H→Prop
noncomputable def s8_0 (c:Caller Prop FT) (k:KV) (J:J8) (v_0:AV) (v_1:AV) (h:H):Prop:=
 c (.func 20) [v_0] h fun v1 h2=>
 ext 0 v1 fun v3=>
 ext 1 v1 fun v4=>
 asI .i64 v4 fun n5=>
 oK (exBuild env (env.ty 66) [(0,v_0)] h2) fun v6 h7=>
 asG v6 fun g8=>
 chk (Nat.ble 1 (len g8))<|
 Hp.newK h7 (rowOf 66 g8) fun p9 h10=>
 joinB (fun k11=>gate false (bnot (ibeq n5 (Int.ofNat 0)))
 (oV (binA env .eql 29 v3 .nilp) fun v14=>
 asB v14 fun b15=>
 k11 b15 h10)
 (k11 true h10)) fun b13 h12=>
 cnd b13
 (k (.tuple [.nilp,(.ptr p9 0),(.bool false)]) h12)
 (J.a1 v_1 v3 (.ptr p9 0) (Int.ofNat 0) h12)
noncomputable def s8_1 (c:Caller Prop FT) (k:KV) (J:J8) (v_1:AV) (v_7:AV) (v_9:AV) (n_10:Int) (h:H):Prop:=
 lenV v_1 fun m16=>
 cnd (iblt n_10 (Int.ofNat m16))
 (natI n_10 fun m17=>
 elemA 2 m17 v_1 fun v18=>
 fAddr 0 v18 fun v19=>
 ld1 v19 h fun v20=>
 asS v20 fun l21 c22=>
 natI n_10 fun m23=>
 elemA 2 m23 v_1 fun v24=>
 fAddr 1 v24 fun v25=>
 ld1 v25 h fun v26=>
 asS v26 fun l27 c28=>
 natI n_10 fun m29=>
 elemA 2 m29 v_1 fun v30=>
 fAddr 0 v30 fun v31=>
 ld1 v31 h fun v32=>
 asS v32 fun l33 c34=>
 natI n_10 fun m35=>
 elemA 2 m35 v_1 fun v36=>
 fAddr 1 v36 fun v37=>
 ld1 v37 h fun v38=>
 asS v38 fun l39 c40=>
 c (.func 21) [v_7,(.str l21 c22),(.str l27 c28)] h fun v41 h42=>
 asI .i64 v41 fun n43=>
 ld1 v31 h42 fun v44=>
 asS v44 fun l45 c46=>
 eqC (.str l45 c46) (.str l33 c34)<|
 ld1 v37 h42 fun v47=>
 asS v47 fun l48 c49=>
 eqC (.str l48 c49) (.str l39 c40)<|
 c (.func 22) [v_9,(.str l33 c34),(.str l39 c40)] h42 fun v50 h51=>
 asI .i64 v50 fun n52=>
 cnd (bnot (ibeq n43 n52))
 (k (.tuple [.nilp,v_9,(.bool false)]) h51)
 (fI (wrap .i64 (iadd n_10 (Int.ofNat 1))) fun n53=>
 J.a1 v_1 v_7 v_9 n53 h51))
 (k (.tuple [v_7,v_9,(.bool true)]) h)
noncomputable def z8:J8:=⟨fun _ _ _=>False,fun _ _ _ _ _=>False⟩
noncomputable def r8 (c:Caller Prop FT) (k:KV) (m:Nat):J8:=Nat.rec z8 (fun _ J=>⟨s8_0 c k J,s8_1 c k J⟩) m
noncomputable def f8 (J:J8):Jump:=fun L f h=>match L with
  |0=>J.a0 (f 0) (f 1) h
  |1=>asI .i64 (f 10) fun n_10=>J.a1 (f 1) (f 7) (f 9) n_10 h
  |_=>False
noncomputable def u8:Cuts:=[(.root,0),((.l (.r (.l (.r (.r (.r (.r .root))))))),1)]
noncomputable def d9:Code:=Option.rec .skip (fun c=>c) Go.Proofs.Tryz.f9.body
noncomputable def q9:Plans:=[]
structure J9 where
  a0:AV→AV→H→Prop
noncomputable def s9_0 (c:Caller Prop FT) (k:KV) (_J:J9) (v_0:AV) (v_1:AV) (h:H):Prop:=
 asG v_1 fun g1=>
 chk (Nat.ble 1 (len g1))<|
 Hp.newK h (rowOf 38 g1) fun p2 h3=>
 fAddr 3 (.ptr p2 0) fun v4=>
 ldn 3 v4 h3 fun v5=>
 c (.func 23) [v_0,v5] h3 fun v6 h7=>
 ext 0 v6 fun v8=>
 asS v8 fun l9 c10=>
 ext 1 v6 fun v11=>
 asB v11 fun b12=>
 k (.tuple [(.str l9 c10),(.bool b12)]) h7
noncomputable def z9:J9:=⟨fun _ _ _=>False⟩
noncomputable def r9 (c:Caller Prop FT) (k:KV) (m:Nat):J9:=Nat.rec z9 (fun _ J=>⟨s9_0 c k J⟩) m
noncomputable def f9 (J:J9):Jump:=fun L f h=>match L with
  |0=>J.a0 (f 0) (f 1) h
  |_=>False
noncomputable def u9:Cuts:=[(.root,0)]
noncomputable def d10:Code:=Option.rec .skip (fun c=>c) Go.Proofs.Tryz.f10.body
noncomputable def q10:Plans:=[]
structure J10 where
  a0:AV→AV→H→Prop
noncomputable def s10_0 (c:Caller Prop FT) (k:KV) (_J:J10) (v_0:AV) (v_1:AV) (h:H):Prop:=
 asG v_1 fun g1=>
 chk (Nat.ble 1 (len g1))<|
 Hp.newK h (rowOf 25 g1) fun p2 h3=>
 fAddr 0 (.ptr p2 0) fun v4=>
 ld1 v4 h3 fun v5=>
 asS v5 fun l6 c7=>
 c (.func 24) [v_0,(.str l6 c7)] h3 fun v8 h9=>
 ext 0 v8 fun v10=>
 asS v10 fun l11 c12=>
 ext 1 v8 fun v13=>
 asB v13 fun b14=>
 joinB (fun k15=>gate false (bnot b14)
 (fAddr 1 (.ptr p2 0) fun v18=>
 ld1 v18 h9 fun v19=>
 asI .i64 v19 fun n20=>
 k15 (iblt n20 (Int.ofNat 0)) h9)
 (k15 true h9)) fun b17 h16=>
 joinB (fun k21=>gate false b17
 (fAddr 1 (.ptr p2 0) fun v24=>
 ld1 v24 h16 fun v25=>
 asI .i64 v25 fun n26=>
 fAddr 2 (.ptr p2 0) fun v27=>
 ld1 v27 h16 fun v28=>
 asI .i64 v28 fun n29=>
 k21 (iblt n29 n26) h16)
 (k21 true h16)) fun b23 h22=>
 joinB (fun k30=>gate false b23
 (fAddr 2 (.ptr p2 0) fun v33=>
 ld1 v33 h22 fun v34=>
 asI .i64 v34 fun n35=>
 k30 (iblt (Int.ofNat l11) n35) h22)
 (k30 true h22)) fun b32 h31=>
 cnd b32
 (k (.tuple [(.str 0 0),(.bool false)]) h31)
 (fAddr 1 (.ptr p2 0) fun v36=>
 ld1 v36 h31 fun v37=>
 asI .i64 v37 fun n38=>
 fAddr 2 (.ptr p2 0) fun v39=>
 ld1 v39 h31 fun v40=>
 asI .i64 v40 fun n41=>
 c (.func 17) [(.str l11 c12),(.int .i64 n38),(.int .i64 n41)] h31 fun v42 h43=>
 asS v42 fun l44 c45=>
 k (.tuple [(.str l44 c45),(.bool true)]) h43)
noncomputable def z10:J10:=⟨fun _ _ _=>False⟩
noncomputable def r10 (c:Caller Prop FT) (k:KV) (m:Nat):J10:=Nat.rec z10 (fun _ J=>⟨s10_0 c k J⟩) m
noncomputable def f10 (J:J10):Jump:=fun L f h=>match L with
  |0=>J.a0 (f 0) (f 1) h
  |_=>False
noncomputable def u10:Cuts:=[(.root,0)]
noncomputable def d11:Code:=Option.rec .skip (fun c=>c) Go.Proofs.Tryz.f11.body
noncomputable def q11:Plans:=[]
structure J11 where
  a0:AV→AV→H→Prop
  a1:AV→AV→Int→Int→H→Prop
noncomputable def s11_0 (c:Caller Prop FT) (k:KV) (J:J11) (v_0:AV) (v_1:AV) (h:H):Prop:=
 asG v_1 fun g1=>
 chk (Nat.ble 1 (len g1))<|
 Hp.newK h (rowOf 38 g1) fun p2 h3=>
 ldn 8 (.ptr p2 0) h3 fun v4=>
 c (.func 9) [v_0,v4] h3 fun v5 h6=>
 ext 0 v5 fun v7=>
 asS v7 fun l8 c9=>
 ext 1 v5 fun v10=>
 asB v10 fun b11=>
 joinB (fun k12=>gate false (bnot b11)
 (fAddr 6 (.ptr p2 0) fun v15=>
 ld1 v15 h6 fun v16=>
 asB v16 fun b17=>
 joinB (fun k18=>gate true (bnot b17)
 (fAddr 0 (.ptr p2 0) fun v21=>
 ld1 v21 h6 fun v22=>
 asI .i64 v22 fun n23=>
 k18 (bnot (ibeq n23 (Int.ofNat 7))) h6)
 (k18 false h6)) fun b20 h19=>
 joinB (fun k24=>gate true b20
 (fAddr 1 (.ptr p2 0) fun v27=>
 ld1 v27 h19 fun v28=>
 asS v28 fun l29 c30=>
 k24 (bnot (strEq l8 c9 l29 c30)) h19)
 (k24 false h19)) fun b26 h25=>
 k12 b26 h25)
 (k12 true h6)) fun b14 h13=>
 cnd b14
 (k (.bool false) h13)
 (fAddr 7 (.ptr p2 0) fun v31=>
 ld1 v31 h13 fun v32=>
 lenV v32 fun m33=>
 J.a1 v_0 v32 (Int.ofNat m33) (Int.ofNat 0) h13)
noncomputable def s11_1 (c:Caller Prop FT) (k:KV) (J:J11) (v_0:AV) (v_36:AV) (n_37:Int) (n_38:Int) (h:H):Prop:=
 cnd (iblt n_38 n_37)
 (natI n_38 fun m34=>
 elemA 5 m34 v_36 fun v35=>
 ldn 5 v35 h fun v36=>
 Hp.newK h ob41 fun p37 h38=>
 stn 5 (.ptr p37 0) v36 h38 fun h39=>
 fAddr 1 (.ptr p37 0) fun v40=>
 ldn 3 v40 h39 fun v41=>
 c (.func 23) [v_0,v41] h39 fun v42 h43=>
 ext 0 v42 fun v44=>
 asS v44 fun l45 c46=>
 ext 1 v42 fun v47=>
 asB v47 fun b48=>
 joinB (fun k49=>gate false (bnot b48)
 (fAddr 4 (.ptr p37 0) fun v52=>
 ld1 v52 h43 fun v53=>
 asB v53 fun b54=>
 joinB (fun k55=>gate true (bnot b54)
 (fAddr 0 (.ptr p37 0) fun v58=>
 ld1 v58 h43 fun v59=>
 asS v59 fun l60 c61=>
 k55 (bnot (strEq l45 c46 l60 c61)) h43)
 (k55 false h43)) fun b57 h56=>
 k49 b57 h56)
 (k49 true h43)) fun b51 h50=>
 cnd b51
 (k (.bool false) h50)
 (fI (wrap .i64 (iadd n_38 (Int.ofNat 1))) fun n62=>
 J.a1 v_0 v_36 n_37 n62 h50))
 (k (.bool true) h)
noncomputable def z11:J11:=⟨fun _ _ _=>False,fun _ _ _ _ _=>False⟩
noncomputable def r11 (c:Caller Prop FT) (k:KV) (m:Nat):J11:=Nat.rec z11 (fun _ J=>⟨s11_0 c k J,s11_1 c k J⟩) m
noncomputable def f11 (J:J11):Jump:=fun L f h=>match L with
  |0=>J.a0 (f 0) (f 1) h
  |1=>asI .i64 (f 37) fun n_37=>asI .i64 (f 38) fun n_38=>J.a1 (f 0) (f 36) n_37 n_38 h
  |_=>False
noncomputable def u11:Cuts:=[(.root,0),((.l (.r (.l (.r (.r (.r .root)))))),1)]
noncomputable def d12:Code:=Option.rec .skip (fun c=>c) Go.Proofs.Tryz.f12.body
noncomputable def q12:Plans:=[]
structure J12 where
  a0:AV→AV→H→Prop
  a1:AV→AV→Int→H→Prop
noncomputable def s12_0 (c:Caller Prop FT) (k:KV) (J:J12) (v_0:AV) (v_1:AV) (h:H):Prop:=
 asG v_1 fun g1=>
 chk (Nat.ble 1 (len g1))<|
 Hp.newK h (rowOf 38 g1) fun p2 h3=>
 fAddr 3 (.ptr p2 0) fun v4=>
 ldn 3 v4 h3 fun v5=>
 c (.func 10) [v_0,v5] h3 fun v6 h7=>
 ext 0 v6 fun v8=>
 asS v8 fun l9 c10=>
 ext 1 v6 fun v11=>
 asB v11 fun b12=>
 joinB (fun k13=>gate false (bnot b12)
 (fAddr 6 (.ptr p2 0) fun v16=>
 ld1 v16 h7 fun v17=>
 asB v17 fun b18=>
 joinB (fun k19=>gate true (bnot b18)
 (fAddr 0 (.ptr p2 0) fun v22=>
 ld1 v22 h7 fun v23=>
 asI .i64 v23 fun n24=>
 k19 (bnot (ibeq n24 (Int.ofNat 7))) h7)
 (k19 false h7)) fun b21 h20=>
 joinB (fun k25=>gate true b21
 (fAddr 1 (.ptr p2 0) fun v28=>
 ld1 v28 h20 fun v29=>
 asS v29 fun l30 c31=>
 k25 (bnot (strEq l9 c10 l30 c31)) h20)
 (k25 false h20)) fun b27 h26=>
 k13 b27 h26)
 (k13 true h7)) fun b15 h14=>
 cnd b15
 (k (.bool false) h14)
 (J.a1 v_0 (.ptr p2 0) (Int.ofNat 0) h14)
noncomputable def s12_1 (c:Caller Prop FT) (k:KV) (J:J12) (v_0:AV) (v_3:AV) (n_7:Int) (h:H):Prop:=
 fAddr 7 v_3 fun v32=>
 ld1 v32 h fun v33=>
 lenV v33 fun m34=>
 cnd (iblt n_7 (Int.ofNat m34))
 (fAddr 7 v_3 fun v35=>
 ld1 v35 h fun v36=>
 natI n_7 fun m37=>
 elemA 5 m37 v36 fun v38=>
 fAddr 1 v38 fun v39=>
 ldn 3 v39 h fun v40=>
 c (.func 10) [v_0,v40] h fun v41 h42=>
 ext 0 v41 fun v43=>
 asS v43 fun l44 c45=>
 ext 1 v41 fun v46=>
 asB v46 fun b47=>
 joinB (fun k48=>gate false (bnot b47)
 (fAddr 7 v_3 fun v51=>
 ld1 v51 h42 fun v52=>
 natI n_7 fun m53=>
 elemA 5 m53 v52 fun v54=>
 fAddr 4 v54 fun v55=>
 ld1 v55 h42 fun v56=>
 asB v56 fun b57=>
 joinB (fun k58=>gate true (bnot b57)
 (fAddr 7 v_3 fun v61=>
 ld1 v61 h42 fun v62=>
 natI n_7 fun m63=>
 elemA 5 m63 v62 fun v64=>
 fAddr 0 v64 fun v65=>
 ld1 v65 h42 fun v66=>
 asS v66 fun l67 c68=>
 k58 (bnot (strEq l44 c45 l67 c68)) h42)
 (k58 false h42)) fun b60 h59=>
 k48 b60 h59)
 (k48 true h42)) fun b50 h49=>
 cnd b50
 (k (.bool false) h49)
 (fI (wrap .i64 (iadd n_7 (Int.ofNat 1))) fun n69=>
 J.a1 v_0 v_3 n69 h49))
 (k (.bool true) h)
noncomputable def z12:J12:=⟨fun _ _ _=>False,fun _ _ _ _=>False⟩
noncomputable def r12 (c:Caller Prop FT) (k:KV) (m:Nat):J12:=Nat.rec z12 (fun _ J=>⟨s12_0 c k J,s12_1 c k J⟩) m
noncomputable def f12 (J:J12):Jump:=fun L f h=>match L with
  |0=>J.a0 (f 0) (f 1) h
  |1=>asI .i64 (f 7) fun n_7=>J.a1 (f 0) (f 3) n_7 h
  |_=>False
noncomputable def u12:Cuts:=[(.root,0),((.l (.r (.l (.r (.r (.r .root)))))),1)]
noncomputable def d13:Code:=Option.rec .skip (fun c=>c) Go.Proofs.Tryz.f13.body
noncomputable def q13:Plans:=[]
structure J13 where
  a0:AV→H→Prop
noncomputable def s13_0 (c:Caller Prop FT) (k:KV) (_J:J13) (v_0:AV) (h:H):Prop:=
 asG v_0 fun g1=>
 chk (Nat.ble 1 (len g1))<|
 Hp.newK h (rowOf 38 g1) fun p2 h3=>
 Hp.newK h3 ob25 fun p4 h5=>
 ldn 8 (.ptr p2 0) h5 fun v6=>
 c (.func 25) [v6] h5 fun v7 h8=>
 stn 3 (.ptr p4 0) v7 h8 fun h9=>
 ldn 3 (.ptr p4 0) h9 fun v10=>
 k v10 h9
noncomputable def z13:J13:=⟨fun _ _=>False⟩
noncomputable def r13 (c:Caller Prop FT) (k:KV) (m:Nat):J13:=Nat.rec z13 (fun _ J=>⟨s13_0 c k J⟩) m
noncomputable def f13 (J:J13):Jump:=fun L f h=>match L with
  |0=>J.a0 (f 0) h
  |_=>False
noncomputable def u13:Cuts:=[(.root,0)]
noncomputable def d14:Code:=Option.rec .skip (fun c=>c) Go.Proofs.Tryz.f14.body
noncomputable def q14:Plans:=[(6,[0,1,2,3,4,5,6,7,8])]
structure J14 where
  a0:AV→AV→H→Prop
  a1:AV→AV→Int→H→Prop
noncomputable def s14_0 (_c:Caller Prop FT) (k:KV) (J:J14) (v_0:AV) (v_1:AV) (h:H):Prop:=
 lenV v_0 fun m1=>
 lenV v_1 fun m2=>
 cnd (bnot (ibeq (Int.ofNat m1) (Int.ofNat m2)))
 (k (.bool false) h)
 (J.a1 v_0 v_1 (Int.ofNat 0) h)
noncomputable def s14_1 (_c:Caller Prop FT) (k:KV) (J:J14) (v_0:AV) (v_1:AV) (n_5:Int) (h:H):Prop:=
 lenV v_0 fun m3=>
 cnd (iblt n_5 (Int.ofNat m3))
 (natI n_5 fun m4=>
 elemA 1 m4 v_0 fun v5=>
 ld1 v5 h fun v6=>
 asI .i64 v6 fun n7=>
 natI n_5 fun m8=>
 elemA 1 m8 v_1 fun v9=>
 ld1 v9 h fun v10=>
 asI .i64 v10 fun n11=>
 cnd (bnot (ibeq n7 n11))
 (k (.bool false) h)
 (fI (wrap .i64 (iadd n_5 (Int.ofNat 1))) fun n12=>
 J.a1 v_0 v_1 n12 h))
 (k (.bool true) h)
noncomputable def z14:J14:=⟨fun _ _ _=>False,fun _ _ _ _=>False⟩
noncomputable def r14 (c:Caller Prop FT) (k:KV) (m:Nat):J14:=Nat.rec z14 (fun _ J=>⟨s14_0 c k J,s14_1 c k J⟩) m
noncomputable def f14 (J:J14):Jump:=fun L f h=>match L with
  |0=>J.a0 (f 0) (f 1) h
  |1=>asI .i64 (f 5) fun n_5=>J.a1 (f 0) (f 1) n_5 h
  |_=>False
noncomputable def u14:Cuts:=[(.root,0),((.l (.r (.l (.r (.r .root))))),1)]
noncomputable def d15:Code:=Option.rec .skip (fun c=>c) Go.Proofs.Tryz.f15.body
noncomputable def q15:Plans:=[]
structure J15 where
  a0:AV→AV→H→Prop
  a1:AV→AV→AV→Int→Int→H→Prop
noncomputable def s15_0 (_c:Caller Prop FT) (_k:KV) (J:J15) (v_0:AV) (v_1:AV) (h:H):Prop:=
 asG v_0 fun g1=>
 chk (Nat.ble 1 (len g1))<|
 Hp.newK h (rowOf 50 g1) fun p2 h3=>
 asG v_1 fun g4=>
 chk (Nat.ble 1 (len g4))<|
 Hp.newK h3 (rowOf 25 g4) fun p5 h6=>
 fAddr 0 (.ptr p2 0) fun v7=>
 ld1 v7 h6 fun v8=>
 lenV v8 fun m9=>
 J.a1 (.ptr p5 0) .nils v8 (Int.ofNat m9) (Int.ofNat 0) h6
noncomputable def s15_1 (c:Caller Prop FT) (k:KV) (J:J15) (v_3:AV) (v_4:AV) (v_9:AV) (n_10:Int) (n_11:Int) (h:H):Prop:=
 cnd (iblt n_11 n_10)
 (natI n_11 fun m10=>
 elemA 8 m10 v_9 fun v11=>
 ldn 8 v11 h fun v12=>
 Hp.newK h ob38 fun p13 h14=>
 stn 8 (.ptr p13 0) v12 h14 fun h15=>
 ldn 8 (.ptr p13 0) h15 fun v16=>
 c (.func 13) [v16] h15 fun v17 h18=>
 Hp.newK h18 ob25 fun p19 h20=>
 stn 3 (.ptr p19 0) v17 h20 fun h21=>
 fAddr 0 (.ptr p19 0) fun v22=>
 ld1 v22 h21 fun v23=>
 asS v23 fun l24 c25=>
 fAddr 0 v_3 fun v26=>
 ld1 v26 h21 fun v27=>
 asS v27 fun l28 c29=>
 joinB (fun k30=>gate true (strEq l24 c25 l28 c29)
 (fAddr 1 (.ptr p19 0) fun v33=>
 ld1 v33 h21 fun v34=>
 asI .i64 v34 fun n35=>
 fAddr 2 v_3 fun v36=>
 ld1 v36 h21 fun v37=>
 asI .i64 v37 fun n38=>
 k30 (iblt n35 n38) h21)
 (k30 false h21)) fun b32 h31=>
 joinB (fun k39=>gate true b32
 (fAddr 2 (.ptr p19 0) fun v42=>
 ld1 v42 h31 fun v43=>
 asI .i64 v43 fun n44=>
 fAddr 1 v_3 fun v45=>
 ld1 v45 h31 fun v46=>
 asI .i64 v46 fun n47=>
 k39 (iblt n47 n44) h31)
 (k39 false h31)) fun b41 h40=>
 cnd b41
 (oK (withElem env 33 (fun e ei=>exBuildSlice 1 [(0,(.int .i64 n_11))] h40 e ei)) fun v48 h49=>
 oK (builtinA env .append [33,33] [v_4,v48] h49) fun v50 h51=>
 fI (wrap .i64 (iadd n_11 (Int.ofNat 1))) fun n52=>
 J.a1 v_3 v50 v_9 n_10 n52 h51)
 (fI (wrap .i64 (iadd n_11 (Int.ofNat 1))) fun n53=>
 J.a1 v_3 v_4 v_9 n_10 n53 h40))
 (k v_4 h)
noncomputable def z15:J15:=⟨fun _ _ _=>False,fun _ _ _ _ _ _=>False⟩
noncomputable def r15 (c:Caller Prop FT) (k:KV) (m:Nat):J15:=Nat.rec z15 (fun _ J=>⟨s15_0 c k J,s15_1 c k J⟩) m
noncomputable def f15 (J:J15):Jump:=fun L f h=>match L with
  |0=>J.a0 (f 0) (f 1) h
  |1=>asI .i64 (f 10) fun n_10=>asI .i64 (f 11) fun n_11=>J.a1 (f 3) (f 4) (f 9) n_10 n_11 h
  |_=>False
noncomputable def u15:Cuts:=[(.root,0),((.l (.r (.l (.r .root)))),1)]
noncomputable def d16:Code:=Option.rec .skip (fun c=>c) Go.Proofs.Tryz.f16.body
noncomputable def q16:Plans:=[]
noncomputable def u16:Cuts:=[(.root,0)]
noncomputable def d17:Code:=Option.rec .skip (fun c=>c) Go.Proofs.Tryz.f17.body
noncomputable def q17:Plans:=[]
structure J17 where
  a0:Nat→Nat→Int→Int→H→Prop
  a1:Int→Int→AV→AV→Int→H→Prop
  a2:Int→Int→AV→AV→Int→H→Prop
noncomputable def s17_0 (c:Caller Prop FT) (_k:KV) (J:J17) (l_0:Nat) (c_0:Nat) (n_1:Int) (n_2:Int) (h:H):Prop:=
 c (.func 30) [(.str l_0 c_0)] h fun v1 h2=>
 c (.func 29) [v1] h2 fun v3 h4=>
 J.a1 n_1 n_2 v3 .nils (Int.ofNat 0) h4
noncomputable def s17_1 (_c:Caller Prop FT) (k:KV) (J:J17) (n_1:Int) (n_2:Int) (v_7:AV) (v_8:AV) (n_9:Int) (h:H):Prop:=
 lenV v_7 fun m5=>
 cnd (iblt n_9 (Int.ofNat m5))
 (natI n_9 fun m6=>
 elemA 3 m6 v_7 fun v7=>
 fAddr 1 v7 fun v8=>
 ld1 v8 h fun v9=>
 asI .i64 v9 fun n10=>
 joinB (fun k11=>gate true (ible n_1 n10)
 (natI n_9 fun m14=>
 elemA 3 m14 v_7 fun v15=>
 fAddr 2 v15 fun v16=>
 ld1 v16 h fun v17=>
 asI .i64 v17 fun n18=>
 k11 (ible n18 n_2) h)
 (k11 false h)) fun b13 h12=>
 cnd b13
 (natI n_9 fun m19=>
 elemA 3 m19 v_7 fun v20=>
 fAddr 0 v20 fun v21=>
 ld1 v21 h12 fun v22=>
 asI .u8 v22 fun n23=>
 oK (withElem env 79 (fun e ei=>exBuildSlice 1 [(0,(.int .u8 n23))] h12 e ei)) fun v24 h25=>
 oK (builtinA env .append [79,79] [v_8,v24] h25) fun v26 h27=>
 J.a2 n_1 n_2 v_7 v26 n_9 h27)
 (J.a2 n_1 n_2 v_7 v_8 n_9 h12))
 (oK (convA env h 79 9 v_8) fun v28 h29=>
 asS v28 fun l30 c31=>
 k (.str l30 c31) h29)
noncomputable def s17_2 (_c:Caller Prop FT) (_k:KV) (J:J17) (n_1:Int) (n_2:Int) (v_7:AV) (v_8:AV) (n_9:Int) (h:H):Prop:=
 fI (wrap .i64 (iadd n_9 (Int.ofNat 1))) fun n32=>
 J.a1 n_1 n_2 v_7 v_8 n32 h
noncomputable def z17:J17:=⟨fun _ _ _ _ _=>False,fun _ _ _ _ _ _=>False,fun _ _ _ _ _ _=>False⟩
noncomputable def r17 (c:Caller Prop FT) (k:KV) (m:Nat):J17:=Nat.rec z17 (fun _ J=>⟨s17_0 c k J,s17_1 c k J,s17_2 c k J⟩) m
noncomputable def f17 (J:J17):Jump:=fun L f h=>match L with
  |0=>asS (f 0) fun l_0 c_0=>asI .i64 (f 1) fun n_1=>asI .i64 (f 2) fun n_2=>J.a0 l_0 c_0 n_1 n_2 h
  |1=>asI .i64 (f 1) fun n_1=>asI .i64 (f 2) fun n_2=>asI .i64 (f 9) fun n_9=>J.a1 n_1 n_2 (f 7) (f 8) n_9 h
  |2=>asI .i64 (f 1) fun n_1=>asI .i64 (f 2) fun n_2=>asI .i64 (f 9) fun n_9=>J.a2 n_1 n_2 (f 7) (f 8) n_9 h
  |_=>False
noncomputable def u17:Cuts:=[(.root,0),((.l (.r (.l (.r (.r (.r .root)))))),1),((.r (.r (.l (.l (.r (.l (.r (.r (.r .root))))))))),2)]
noncomputable def d18:Code:=Option.rec .skip (fun c=>c) Go.Proofs.Tryz.f18.body
noncomputable def q18:Plans:=[]
structure J18 where
  a0:AV→Int→H→Prop
  a1:AV→Int→Int→Int→H→Prop
noncomputable def s18_0 (_c:Caller Prop FT) (_k:KV) (J:J18) (v_0:AV) (n_1:Int) (h:H):Prop:=
 J.a1 v_0 n_1 (Int.ofNat 0) (Int.ofNat 0) h
noncomputable def s18_1 (_c:Caller Prop FT) (k:KV) (J:J18) (v_0:AV) (n_1:Int) (n_5:Int) (n_6:Int) (h:H):Prop:=
 lenV v_0 fun m1=>
 joinB (fun k2=>gate true (iblt n_6 (Int.ofNat m1))
 (k2 (ible n_6 n_1) h)
 (k2 false h)) fun b4 h3=>
 cnd b4
 (natI n_6 fun m5=>
 elemA 1 m5 v_0 fun v6=>
 ld1 v6 h3 fun v7=>
 asS v7 fun l8 _=>
 cnd (iblt n_1 (Int.ofNat l8))
 (k (.bool false) h3)
 (natI n_6 fun m10=>
 elemA 1 m10 v_0 fun v11=>
 ld1 v11 h3 fun v12=>
 asS v12 fun l13 _=>
 fI (wrap .i64 (iadd n_5 (Int.ofNat l13))) fun n15=>
 fI (wrap .i64 (iadd n_6 (Int.ofNat 1))) fun n16=>
 J.a1 v_0 n_1 n15 n16 h3))
 (lenV v_0 fun m17=>
 joinB (fun k18=>gate true (ible (Int.ofNat m17) n_1)
 (k18 (ible n_5 n_1) h3)
 (k18 false h3)) fun b20 h19=>
 k (.bool b20) h19)
noncomputable def z18:J18:=⟨fun _ _ _=>False,fun _ _ _ _ _=>False⟩
noncomputable def r18 (c:Caller Prop FT) (k:KV) (m:Nat):J18:=Nat.rec z18 (fun _ J=>⟨s18_0 c k J,s18_1 c k J⟩) m
noncomputable def f18 (J:J18):Jump:=fun L f h=>match L with
  |0=>asI .i64 (f 1) fun n_1=>J.a0 (f 0) n_1 h
  |1=>asI .i64 (f 1) fun n_1=>asI .i64 (f 5) fun n_5=>asI .i64 (f 6) fun n_6=>J.a1 (f 0) n_1 n_5 n_6 h
  |_=>False
noncomputable def u18:Cuts:=[(.root,0),((.l (.r (.l (.r (.r .root))))),1)]
noncomputable def d19:Code:=Option.rec .skip (fun c=>c) Go.Proofs.Tryz.f19.body
noncomputable def q19:Plans:=[]
structure J19 where
  a0:AV→H→Prop
  a1:AV→Int→H→Prop
noncomputable def s19_0 (_c:Caller Prop FT) (k:KV) (J:J19) (v_0:AV) (h:H):Prop:=
 lenV v_0 fun m1=>
 cnd (iblt (Int.ofNat 10) (Int.ofNat m1))
 (k (.bool false) h)
 (J.a1 v_0 (Int.ofNat 0) h)
noncomputable def s19_1 (c:Caller Prop FT) (k:KV) (J:J19) (v_0:AV) (n_3:Int) (h:H):Prop:=
 lenV v_0 fun m2=>
 cnd (iblt n_3 (Int.ofNat m2))
 (natI n_3 fun m3=>
 elemA 1 m3 v_0 fun v4=>
 ld1 v4 h fun v5=>
 asS v5 fun l6 c7=>
 joinB (fun k8=>gate true (bnot (strEq l6 c7 0 0))
 (natI n_3 fun m11=>
 elemA 1 m11 v_0 fun v12=>
 ld1 v12 h fun v13=>
 asS v13 fun l14 c15=>
 c (.func 31) [(.str l14 c15)] h fun v16 h17=>
 asB v16 fun b18=>
 k8 (bnot b18) h17)
 (k8 false h)) fun b10 h9=>
 cnd b10
 (k (.bool false) h9)
 (fI (wrap .i64 (iadd n_3 (Int.ofNat 1))) fun n19=>
 J.a1 v_0 n19 h9))
 (k (.bool true) h)
noncomputable def z19:J19:=⟨fun _ _=>False,fun _ _ _=>False⟩
noncomputable def r19 (c:Caller Prop FT) (k:KV) (m:Nat):J19:=Nat.rec z19 (fun _ J=>⟨s19_0 c k J,s19_1 c k J⟩) m
noncomputable def f19 (J:J19):Jump:=fun L f h=>match L with
  |0=>J.a0 (f 0) h
  |1=>asI .i64 (f 3) fun n_3=>J.a1 (f 0) n_3 h
  |_=>False
noncomputable def u19:Cuts:=[(.root,0),((.l (.r (.l (.r (.r .root))))),1)]
noncomputable def d20:Code:=Option.rec .skip (fun c=>c) Go.Proofs.Tryz.f20.body
noncomputable def q20:Plans:=[]
structure J20 where
  a0:AV→H→Prop
noncomputable def s20_0 (c:Caller Prop FT) (k:KV) (_J:J20) (v_0:AV) (h:H):Prop:=
 lenV v_0 fun m1=>
 joinB (fun k2=>gate false (iblt (Int.ofNat 10) (Int.ofNat m1))
 (c (.func 34) [v_0,(.func (.func 32) [] [])] h fun v5 h6=>
 asB v5 fun b7=>
 k2 b7 h6)
 (k2 true h)) fun b4 h3=>
 cnd b4
 (k (.tuple [.nilp,(.int .i64 (Int.ofNat 1))]) h3)
 (c (.func 35) [v_0] h3 fun v8 h9=>
 Hp.newK h9 (.map [] 0) fun p10 h11=>
 Hp.newK h11 (.map [] 0) fun p12 h13=>
 oK (exBuild env (env.ty 87) [(0,v8),(1,(.map p10)),(2,(.map p12))] h13) fun v14 h15=>
 asG v14 fun g16=>
 chk (Nat.ble 1 (len g16))<|
 Hp.newK h15 (rowOf 87 g16) fun p17 h18=>
 k (.tuple [(.ptr p17 0),(.int .i64 (Int.ofNat 0))]) h18)
noncomputable def z20:J20:=⟨fun _ _=>False⟩
noncomputable def r20 (c:Caller Prop FT) (k:KV) (m:Nat):J20:=Nat.rec z20 (fun _ J=>⟨s20_0 c k J⟩) m
noncomputable def f20 (J:J20):Jump:=fun L f h=>match L with
  |0=>J.a0 (f 0) h
  |_=>False
noncomputable def u20:Cuts:=[(.root,0)]
noncomputable def d21:Code:=Option.rec .skip (fun c=>c) Go.Proofs.Tryz.f21.body
noncomputable def q21:Plans:=[]
structure J21 where
  a0:AV→Nat→Nat→Nat→Nat→H→Prop
noncomputable def s21_0 (c:Caller Prop FT) (k:KV) (_J:J21) (v_0:AV) (l_1:Nat) (c_1:Nat) (l_2:Nat) (c_2:Nat) (h:H):Prop:=
 oV (binA env .eql 29 v_0 .nilp) fun v1=>
 asB v1 fun b2=>
 cnd b2
 (k (.int .i64 (Int.ofNat 2)) h)
 (c (.func 33) [(.str l_1 c_1)] h fun v3 h4=>
 asB v3 fun b5=>
 cnd (bnot b5)
 (k (.int .i64 (Int.ofNat 1)) h4)
 (oK (exNil v_0 h4) fun v6 h7=>
 fAddr 1 v6 fun v8=>
 ld1 v8 h7 fun v9=>
 oK (exLookup env 84 v9 (.str l_1 c_1) true h7) fun v10 h11=>
 ext 0 v10 fun _=>
 ext 1 v10 fun v13=>
 asB v13 fun b14=>
 cnd b14
 (k (.int .i64 (Int.ofNat 3)) h11)
 (oK (exNil v_0 h11) fun v15 h16=>
 fAddr 1 v15 fun v17=>
 ld1 v17 h16 fun v18=>
 oK (biLen env [84] v18 h16) fun v19 h20=>
 asI .i64 v19 fun n21=>
 cnd (ible (Int.ofNat 50) n21)
 (k (.int .i64 (Int.ofNat 4)) h20)
 (c (.func 36) [(.str l_2 c_2)] h20 fun v22 h23=>
 ext 0 v22 fun v24=>
 ext 1 v22 fun v25=>
 asI .i64 v25 fun n26=>
 c (.func 37) [v_0,(.str l_1 c_1),v24,(.int .i64 n26)] h23 fun v27 h28=>
 asI .i64 v27 fun n29=>
 k (.int .i64 n29) h28))))
noncomputable def z21:J21:=⟨fun _ _ _ _ _ _=>False⟩
noncomputable def r21 (c:Caller Prop FT) (k:KV) (m:Nat):J21:=Nat.rec z21 (fun _ J=>⟨s21_0 c k J⟩) m
noncomputable def f21 (J:J21):Jump:=fun L f h=>match L with
  |0=>asS (f 1) fun l_1 c_1=>asS (f 2) fun l_2 c_2=>J.a0 (f 0) l_1 c_1 l_2 c_2 h
  |_=>False
noncomputable def u21:Cuts:=[(.root,0)]
noncomputable def d22:Code:=Option.rec .skip (fun c=>c) Go.Proofs.Tryz.f22.body
noncomputable def q22:Plans:=[]
structure J22 where
  a0:AV→Nat→Nat→Nat→Nat→H→Prop
noncomputable def s22_0 (c:Caller Prop FT) (k:KV) (_J:J22) (v_0:AV) (l_1:Nat) (c_1:Nat) (l_2:Nat) (c_2:Nat) (h:H):Prop:=
 c (.func 38) [v_0,(.str l_1 c_1)] h fun v1 h2=>
 ext 0 v1 fun v3=>
 asI .i64 v3 fun _=>
 ext 1 v1 fun v5=>
 asB v5 fun b6=>
 c (.func 31) [(.str l_1 c_1)] h2 fun v7 h8=>
 asB v7 fun b9=>
 cnd (bnot b9)
 (k (.int .i64 (Int.ofNat 1)) h8)
 (cnd b6
 (k (.int .i64 (Int.ofNat 3)) h8)
 (oK (exNil v_0 h8) fun v10 h11=>
 fAddr 1 v10 fun v12=>
 ld1 v12 h11 fun v13=>
 lenV v13 fun m14=>
 joinB (fun k15=>gate false (ible (Int.ofNat 50) (Int.ofNat m14))
 (k15 (iblt (Int.ofNat 65536) (Int.ofNat l_2)) h11)
 (k15 true h11)) fun b17 h16=>
 cnd b17
 (k (.int .i64 (Int.ofNat 4)) h16)
 (c (.func 39) [v_0,(.str l_1 c_1),(.str l_2 c_2)] h16 fun _ h19=>
 k (.int .i64 (Int.ofNat 0)) h19)))
noncomputable def z22:J22:=⟨fun _ _ _ _ _ _=>False⟩
noncomputable def r22 (c:Caller Prop FT) (k:KV) (m:Nat):J22:=Nat.rec z22 (fun _ J=>⟨s22_0 c k J⟩) m
noncomputable def f22 (J:J22):Jump:=fun L f h=>match L with
  |0=>asS (f 1) fun l_1 c_1=>asS (f 2) fun l_2 c_2=>J.a0 (f 0) l_1 c_1 l_2 c_2 h
  |_=>False
noncomputable def u22:Cuts:=[(.root,0)]
noncomputable def d23:Code:=Option.rec .skip (fun c=>c) Go.Proofs.Tryz.f23.body
noncomputable def q23:Plans:=[(2,[0,1,2,3,4,5,6,7,8,9,10,11,12,13,14,15,16,17,18,19,20]),(4,[0,2,3,4,5,1,6,7,8])]
structure J23 where
  a0:AV→AV→H→Prop
noncomputable def s23_0 (c:Caller Prop FT) (k:KV) (_J:J23) (v_0:AV) (v_1:AV) (h:H):Prop:=
 asG v_1 fun g1=>
 chk (Nat.ble 1 (len g1))<|
 Hp.newK h (rowOf 25 g1) fun p2 h3=>
 fAddr 0 (.ptr p2 0) fun v4=>
 ld1 v4 h3 fun v5=>
 asS v5 fun l6 c7=>
 c (.func 40) [v_0,(.str l6 c7)] h3 fun v8 h9=>
 ext 0 v8 fun v10=>
 ext 1 v8 fun v11=>
 asB v11 fun b12=>
 joinB (fun k13=>gate false (bnot b12)
 (fAddr 1 (.ptr p2 0) fun v16=>
 ld1 v16 h9 fun v17=>
 asI .i64 v17 fun n18=>
 k13 (iblt n18 (Int.ofNat 0)) h9)
 (k13 true h9)) fun b15 h14=>
 joinB (fun k19=>gate false b15
 (fAddr 1 (.ptr p2 0) fun v22=>
 ld1 v22 h14 fun v23=>
 asI .i64 v23 fun n24=>
 fAddr 2 (.ptr p2 0) fun v25=>
 ld1 v25 h14 fun v26=>
 asI .i64 v26 fun n27=>
 k19 (iblt n27 n24) h14)
 (k19 true h14)) fun b21 h20=>
 joinB (fun k28=>gate false b21
 (fAddr 2 (.ptr p2 0) fun v31=>
 ld1 v31 h20 fun v32=>
 asI .i64 v32 fun n33=>
 c (.func 41) [v10] h20 fun v34 h35=>
 asI .i64 v34 fun n36=>
 ld1 v31 h35 fun v37=>
 asI .i64 v37 fun n38=>
 eqC (.int .i64 n38) (.int .i64 n33)<|
 k28 (iblt n36 n33) h35)
 (k28 true h20)) fun b30 h29=>
 cnd b30
 (k (.tuple [(.str 0 0),(.bool false)]) h29)
 (fAddr 1 (.ptr p2 0) fun v39=>
 ld1 v39 h29 fun v40=>
 asI .i64 v40 fun n41=>
 fAddr 2 (.ptr p2 0) fun v42=>
 ld1 v42 h29 fun v43=>
 asI .i64 v43 fun n44=>
 c (.func 43) [v10] h29 fun v45 h46=>
 asS v45 fun l47 c48=>
 ld1 v39 h46 fun v49=>
 asI .i64 v49 fun n50=>
 eqC (.int .i64 n50) (.int .i64 n41)<|
 ld1 v42 h46 fun v51=>
 asI .i64 v51 fun n52=>
 eqC (.int .i64 n52) (.int .i64 n44)<|
 c (.func 42) [(.str l47 c48),(.int .i64 n41),(.int .i64 n44)] h46 fun v53 h54=>
 asS v53 fun l55 c56=>
 k (.tuple [(.str l55 c56),(.bool true)]) h54)
noncomputable def z23:J23:=⟨fun _ _ _=>False⟩
noncomputable def r23 (c:Caller Prop FT) (k:KV) (m:Nat):J23:=Nat.rec z23 (fun _ J=>⟨s23_0 c k J⟩) m
noncomputable def f23 (J:J23):Jump:=fun L f h=>match L with
  |0=>J.a0 (f 0) (f 1) h
  |_=>False
noncomputable def u23:Cuts:=[(.root,0)]
noncomputable def d24:Code:=Option.rec .skip (fun c=>c) Go.Proofs.Tryz.f24.body
noncomputable def q24:Plans:=[]
structure J24 where
  a0:AV→Nat→Nat→H→Prop
noncomputable def s24_0 (c:Caller Prop FT) (k:KV) (_J:J24) (v_0:AV) (l_1:Nat) (c_1:Nat) (h:H):Prop:=
 c (.func 38) [v_0,(.str l_1 c_1)] h fun v1 h2=>
 ext 0 v1 fun v3=>
 asI .i64 v3 fun n4=>
 ext 1 v1 fun v5=>
 asB v5 fun b6=>
 cnd (bnot b6)
 (k (.tuple [(.str 0 0),(.bool false)]) h2)
 (oK (exNil v_0 h2) fun v7 h8=>
 fAddr 1 v7 fun v9=>
 ld1 v9 h8 fun v10=>
 natI n4 fun m11=>
 elemA 2 m11 v10 fun v12=>
 fAddr 1 v12 fun v13=>
 ld1 v13 h8 fun v14=>
 asS v14 fun l15 c16=>
 k (.tuple [(.str l15 c16),(.bool true)]) h8)
noncomputable def z24:J24:=⟨fun _ _ _ _=>False⟩
noncomputable def r24 (c:Caller Prop FT) (k:KV) (m:Nat):J24:=Nat.rec z24 (fun _ J=>⟨s24_0 c k J⟩) m
noncomputable def f24 (J:J24):Jump:=fun L f h=>match L with
  |0=>asS (f 1) fun l_1 c_1=>J.a0 (f 0) l_1 c_1 h
  |_=>False
noncomputable def u24:Cuts:=[(.root,0)]
noncomputable def d25:Code:=Option.rec .skip (fun c=>c) Go.Proofs.Tryz.f25.body
noncomputable def q25:Plans:=[]
structure J25 where
  a0:AV→H→Prop
noncomputable def s25_0 (_c:Caller Prop FT) (k:KV) (_J:J25) (v_0:AV) (h:H):Prop:=
 asG v_0 fun g1=>
 chk (Nat.ble 1 (len g1))<|
 Hp.newK h (rowOf 38 g1) fun p2 h3=>
 Hp.newK h3 ob25 fun p4 h5=>
 fAddr 7 (.ptr p2 0) fun v6=>
 ld1 v6 h5 fun v7=>
 lenV v7 fun m8=>
 cnd (iblt (Int.ofNat 0) (Int.ofNat m8))
 (fAddr 7 (.ptr p2 0) fun v9=>
 ld1 v9 h5 fun v10=>
 fI (wrap .i64 (isub (Int.ofNat m8) (Int.ofNat 1))) fun n11=>
 natI n11 fun m12=>
 elemA 5 m12 v10 fun v13=>
 fAddr 1 v13 fun v14=>
 ldn 3 v14 h5 fun v15=>
 stn 3 (.ptr p4 0) v15 h5 fun h16=>
 ldn 3 (.ptr p4 0) h16 fun v17=>
 k v17 h16)
 (fAddr 3 (.ptr p2 0) fun v18=>
 ldn 3 v18 h5 fun v19=>
 stn 3 (.ptr p4 0) v19 h5 fun h20=>
 ldn 3 (.ptr p4 0) h20 fun v21=>
 k v21 h20)
noncomputable def z25:J25:=⟨fun _ _=>False⟩
noncomputable def r25 (c:Caller Prop FT) (k:KV) (m:Nat):J25:=Nat.rec z25 (fun _ J=>⟨s25_0 c k J⟩) m
noncomputable def f25 (J:J25):Jump:=fun L f h=>match L with
  |0=>J.a0 (f 0) h
  |_=>False
noncomputable def u25:Cuts:=[(.root,0)]
noncomputable def d26:Code:=Option.rec .skip (fun c=>c) Go.Proofs.Tryz.f26.body
noncomputable def q26:Plans:=[(4,[0,1,2,4,5,7,8,3,6,9,10,11])]
noncomputable def u26:Cuts:=[(.root,0)]
noncomputable def d27:Code:=Option.rec .skip (fun c=>c) Go.Proofs.Tryz.f27.body
noncomputable def q27:Plans:=[]
noncomputable def u27:Cuts:=[(.root,0),((.l (.r (.l (.r (.r .root))))),1)]
noncomputable def d28:Code:=Option.rec .skip (fun c=>c) Go.Proofs.Tryz.f28.body
noncomputable def q28:Plans:=[(5,[0,1,2,3,4,5,6,7,8,9,10,11]),(12,[0,1,2,3,4,5,6,7,8,9,10,11,12,13,14,15,16,17,18,19,20,23,21,22,24,25,26,27,28]),(4294967294,[9]),(4294967295,[89])]
noncomputable def lp28_0:LpS:=lpOf q28 (codeAt d28 (.l (.r (.l (.r (.r .root))))))
noncomputable def u28:Cuts:=[(.root,0),((.l (.r (.l (.r (.r (.r .root)))))),1)]
noncomputable def d29:Code:=Option.rec .skip (fun c=>c) Go.Proofs.Tryz.f29.body
noncomputable def q29:Plans:=[]
structure J29 where
  a0:AV→H→Prop
  a1:AV→AV→Int→H→Prop
  a2:AV→AV→Int→H→Prop
noncomputable def s29_0 (_c:Caller Prop FT) (_k:KV) (J:J29) (v_0:AV) (h:H):Prop:=
 J.a1 v_0 .nils (Int.ofNat 0) h
noncomputable def s29_1 (_c:Caller Prop FT) (k:KV) (J:J29) (v_0:AV) (v_3:AV) (n_4:Int) (h:H):Prop:=
 lenV v_0 fun m1=>
 cnd (iblt n_4 (Int.ofNat m1))
 (natI n_4 fun m2=>
 elemA 3 m2 v_0 fun v3=>
 fAddr 0 v3 fun v4=>
 ld1 v4 h fun v5=>
 asI .u8 v5 fun n6=>
 joinB (fun k7=>gate true (ibeq n6 (Int.ofNat 92))
 (fI (wrap .i64 (iadd n_4 (Int.ofNat 1))) fun n10=>
 lenV v_0 fun m11=>
 k7 (iblt n10 (Int.ofNat m11)) h)
 (k7 false h)) fun b9 h8=>
 joinB (fun k12=>gate true b9
 (fI (wrap .i64 (iadd n_4 (Int.ofNat 1))) fun n15=>
 natI n15 fun m16=>
 elemA 3 m16 v_0 fun v17=>
 fAddr 0 v17 fun v18=>
 ld1 v18 h8 fun v19=>
 asI .u8 v19 fun n20=>
 k12 (ibeq n20 (Int.ofNat 10)) h8)
 (k12 false h8)) fun b14 h13=>
 cnd b14
 (fI (wrap .i64 (iadd n_4 (Int.ofNat 1))) fun n21=>
 J.a2 v_0 v_3 n21 h13)
 (natI n_4 fun m22=>
 elemA 3 m22 v_0 fun v23=>
 ldn 3 v23 h13 fun v24=>
 oK (withElem env 76 (fun e ei=>exBuildSlice 1 [(0,v24)] h13 e ei)) fun v25 h26=>
 oK (builtinA env .append [76,76] [v_3,v25] h26) fun v27 h28=>
 J.a2 v_0 v27 n_4 h28))
 (k v_3 h)
noncomputable def s29_2 (_c:Caller Prop FT) (_k:KV) (J:J29) (v_0:AV) (v_3:AV) (n_4:Int) (h:H):Prop:=
 fI (wrap .i64 (iadd n_4 (Int.ofNat 1))) fun n29=>
 J.a1 v_0 v_3 n29 h
noncomputable def z29:J29:=⟨fun _ _=>False,fun _ _ _ _=>False,fun _ _ _ _=>False⟩
noncomputable def r29 (c:Caller Prop FT) (k:KV) (m:Nat):J29:=Nat.rec z29 (fun _ J=>⟨s29_0 c k J,s29_1 c k J,s29_2 c k J⟩) m
noncomputable def f29 (J:J29):Jump:=fun L f h=>match L with
  |0=>J.a0 (f 0) h
  |1=>asI .i64 (f 4) fun n_4=>J.a1 (f 0) (f 3) n_4 h
  |2=>asI .i64 (f 4) fun n_4=>J.a2 (f 0) (f 3) n_4 h
  |_=>False
noncomputable def u29:Cuts:=[(.root,0),((.l (.r (.l (.r (.r .root))))),1),((.r (.r (.l (.l (.r (.l (.r (.r .root)))))))),2)]
noncomputable def d30:Code:=Option.rec .skip (fun c=>c) Go.Proofs.Tryz.f30.body
noncomputable def q30:Plans:=[]
structure J30 where
  a0:Nat→Nat→H→Prop
  a1:Nat→Nat→AV→Int→H→Prop
  a2:Nat→Nat→AV→Int→H→Prop
noncomputable def s30_0 (_c:Caller Prop FT) (_k:KV) (J:J30) (l_0:Nat) (c_0:Nat) (h:H):Prop:=
 J.a1 l_0 c_0 .nils (Int.ofNat 0) h
noncomputable def s30_1 (c:Caller Prop FT) (k:KV) (J:J30) (l_0:Nat) (c_0:Nat) (v_3:AV) (n_4:Int) (h:H):Prop:=
 cnd (iblt n_4 (Int.ofNat l_0))
 (fI (wrap .i64 (iadd n_4 (Int.ofNat 2))) fun n1=>
 joinB (fun k2=>gate true (iblt n1 (Int.ofNat l_0))
 (natI n_4 fun m5=>
 idxS l_0 c_0 m5 fun m6=>
 k2 (ibeq (Int.ofNat m6) (Int.ofNat 63)) h)
 (k2 false h)) fun b4 h3=>
 joinB (fun k7=>gate true b4
 (fI (wrap .i64 (iadd n_4 (Int.ofNat 1))) fun n10=>
 natI n10 fun m11=>
 idxS l_0 c_0 m11 fun m12=>
 k7 (ibeq (Int.ofNat m12) (Int.ofNat 63)) h3)
 (k7 false h3)) fun b9 h8=>
 cnd b9
 (fI (wrap .i64 (iadd n_4 (Int.ofNat 2))) fun n13=>
 natI n13 fun m14=>
 idxS l_0 c_0 m14 fun m15=>
 c (.func 54) [(.int .u8 (Int.ofNat m15))] h8 fun v16 h17=>
 ext 0 v16 fun v18=>
 asI .u8 v18 fun n19=>
 ext 1 v16 fun v20=>
 asB v20 fun b21=>
 cnd b21
 (fI (wrap .i64 (iadd n_4 (Int.ofNat 3))) fun n22=>
 oK (exBuild env (env.ty 81) [(0,(.int .u8 n19)),(1,(.int .i64 n_4)),(2,(.int .i64 n22))] h17) fun v23 h24=>
 oK (withElem env 76 (fun e ei=>exBuildSlice 1 [(0,v23)] h24 e ei)) fun v25 h26=>
 oK (builtinA env .append [76,76] [v_3,v25] h26) fun v27 h28=>
 fI (wrap .i64 (iadd n_4 (Int.ofNat 3))) fun n29=>
 J.a1 l_0 c_0 v27 n29 h28)
 (J.a2 l_0 c_0 v_3 n_4 h17))
 (J.a2 l_0 c_0 v_3 n_4 h8))
 (k v_3 h)
noncomputable def s30_2 (_c:Caller Prop FT) (_k:KV) (J:J30) (l_0:Nat) (c_0:Nat) (v_3:AV) (n_4:Int) (h:H):Prop:=
 natI n_4 fun m30=>
 idxS l_0 c_0 m30 fun m31=>
 fI (wrap .i64 (iadd n_4 (Int.ofNat 1))) fun n32=>
 oK (exBuild env (env.ty 81) [(0,(.int .u8 (Int.ofNat m31))),(1,(.int .i64 n_4)),(2,(.int .i64 n32))] h) fun v33 h34=>
 oK (withElem env 76 (fun e ei=>exBuildSlice 1 [(0,v33)] h34 e ei)) fun v35 h36=>
 oK (builtinA env .append [76,76] [v_3,v35] h36) fun v37 h38=>
 fI (wrap .i64 (iadd n_4 (Int.ofNat 1))) fun n39=>
 J.a1 l_0 c_0 v37 n39 h38
noncomputable def z30:J30:=⟨fun _ _ _=>False,fun _ _ _ _ _=>False,fun _ _ _ _ _=>False⟩
noncomputable def r30 (c:Caller Prop FT) (k:KV) (m:Nat):J30:=Nat.rec z30 (fun _ J=>⟨s30_0 c k J,s30_1 c k J,s30_2 c k J⟩) m
noncomputable def f30 (J:J30):Jump:=fun L f h=>match L with
  |0=>asS (f 0) fun l_0 c_0=>J.a0 l_0 c_0 h
  |1=>asS (f 0) fun l_0 c_0=>asI .i64 (f 4) fun n_4=>J.a1 l_0 c_0 (f 3) n_4 h
  |2=>asS (f 0) fun l_0 c_0=>asI .i64 (f 4) fun n_4=>J.a2 l_0 c_0 (f 3) n_4 h
  |_=>False
noncomputable def u30:Cuts:=[(.root,0),((.l (.r (.l (.r (.r .root))))),1),((.r (.l (.r (.l (.l (.r (.l (.r (.r .root))))))))),2)]
noncomputable def d31:Code:=Option.rec .skip (fun c=>c) Go.Proofs.Tryz.f31.body
noncomputable def q31:Plans:=[]
structure J31 where
  a0:Nat→Nat→H→Prop
  a1:AV→Int→H→Prop
noncomputable def s31_0 (c:Caller Prop FT) (k:KV) (J:J31) (l_0:Nat) (c_0:Nat) (h:H):Prop:=
 cnd (iblt (Int.ofNat 80) (Int.ofNat l_0))
 (k (.bool false) h)
 (c (.func 55) [(.str l_0 c_0)] h fun v1 h2=>
 J.a1 v1 (Int.ofNat 0) h2)
noncomputable def s31_1 (c:Caller Prop FT) (k:KV) (J:J31) (v_3:AV) (n_4:Int) (h:H):Prop:=
 lenV v_3 fun m3=>
 cnd (iblt n_4 (Int.ofNat m3))
 (natI n_4 fun m4=>
 elemA 1 m4 v_3 fun v5=>
 ld1 v5 h fun v6=>
 asS v6 fun l7 c8=>
 c (.func 56) [(.str l7 c8)] h fun v9 h10=>
 asB v9 fun b11=>
 cnd (bnot b11)
 (k (.bool false) h10)
 (fI (wrap .i64 (iadd n_4 (Int.ofNat 1))) fun n12=>
 J.a1 v_3 n12 h10))
 (k (.bool true) h)
noncomputable def z31:J31:=⟨fun _ _ _=>False,fun _ _ _=>False⟩
noncomputable def r31 (c:Caller Prop FT) (k:KV) (m:Nat):J31:=Nat.rec z31 (fun _ J=>⟨s31_0 c k J,s31_1 c k J⟩) m
noncomputable def f31 (J:J31):Jump:=fun L f h=>match L with
  |0=>asS (f 0) fun l_0 c_0=>J.a0 l_0 c_0 h
  |1=>asI .i64 (f 4) fun n_4=>J.a1 (f 3) n_4 h
  |_=>False
noncomputable def u31:Cuts:=[(.root,0),((.l (.r (.l (.r (.r (.r .root)))))),1)]
noncomputable def d32:Code:=Option.rec .skip (fun c=>c) Go.Proofs.Tryz.f32.body
noncomputable def q32:Plans:=[]
noncomputable def u32:Cuts:=[(.root,0)]
noncomputable def d33:Code:=Option.rec .skip (fun c=>c) Go.Proofs.Tryz.f33.body
noncomputable def q33:Plans:=[(4294967294,[2]),(4294967295,[13])]
noncomputable def lp33_0:LpS:=lpOf q33 (codeAt d33 (.l (.r (.l (.r (.r .root))))))
structure J33 where
  a0:Nat→Nat→H→Prop
noncomputable def s33_0 (c:Caller Prop FT) (k:KV) (_J:J33) (l_0:Nat) (c_0:Nat) (h:H):Prop:=
 Hp.newK h ob4 fun p1 h2=>
 cnd (iblt (Int.ofNat 80) (Int.ofNat l_0))
 (st1 (.ptr p1 0) (.bool false) h2 fun h3=>
 ld1 (.ptr p1 0) h3 fun v4=>
 k v4 h3)
 (c (.func 57) [(.str l_0 c_0),(.str 1 47)] h2 fun v5 h6=>
 rangeA env c lp33_0 v5 (fset (fun _=>.top) 2 (.ptr p1 0)) h6 fun x7 h8=>
 cnd (axEq x7 .normal)
 (st1 (.ptr p1 0) (.bool true) h8 fun h10=>
 ld1 (.ptr p1 0) h10 fun v11=>
 k v11 h10)
 (cnd (axEq x7 .ret)
 (ld1 (.ptr p1 0) h8 fun v9=>
 k v9 h8)
 (False)))
noncomputable def z33:J33:=⟨fun _ _ _=>False⟩
noncomputable def r33 (c:Caller Prop FT) (k:KV) (m:Nat):J33:=Nat.rec z33 (fun _ J=>⟨s33_0 c k J⟩) m
noncomputable def f33 (J:J33):Jump:=fun L f h=>match L with
  |0=>asS (f 0) fun l_0 c_0=>J.a0 l_0 c_0 h
  |_=>False
noncomputable def u33:Cuts:=[(.root,0)]
noncomputable def d34:Code:=Option.rec .skip (fun c=>c) Go.Proofs.Tryz.f34.body
noncomputable def q34:Plans:=[]
structure J34 where
  a0:AV→AV→H→Prop
noncomputable def s34_0 (c:Caller Prop FT) (k:KV) (_J:J34) (v_0:AV) (v_1:AV) (h:H):Prop:=
 c (.func 59) [v_0,v_1] h fun v1 h2=>
 asI .i64 v1 fun n3=>
 k (.bool (ible (Int.ofNat 0) n3)) h2
noncomputable def z34:J34:=⟨fun _ _ _=>False⟩
noncomputable def r34 (c:Caller Prop FT) (k:KV) (m:Nat):J34:=Nat.rec z34 (fun _ J=>⟨s34_0 c k J⟩) m
noncomputable def f34 (J:J34):Jump:=fun L f h=>match L with
  |0=>J.a0 (f 0) (f 1) h
  |_=>False
noncomputable def u34:Cuts:=[(.root,0)]
noncomputable def d35:Code:=Option.rec .skip (fun c=>c) Go.Proofs.Tryz.f35.body
noncomputable def q35:Plans:=[]
structure J35 where
  a0:AV→H→Prop
noncomputable def s35_0 (_c:Caller Prop FT) (k:KV) (_J:J35) (v_0:AV) (h:H):Prop:=
 oV (binA env .eql 48 v_0 .nils) fun v1=>
 asB v1 fun b2=>
 cnd b2
 (k .nils h)
 (oK (withElem env 48 (fun e ei=>exBuildSlice 0 [] h e ei)) fun v3 h4=>
 oK (builtinA env .append [48,48] [v3,v_0] h4) fun v5 h6=>
 k v5 h6)
noncomputable def z35:J35:=⟨fun _ _=>False⟩
noncomputable def r35 (c:Caller Prop FT) (k:KV) (m:Nat):J35:=Nat.rec z35 (fun _ J=>⟨s35_0 c k J⟩) m
noncomputable def f35 (J:J35):Jump:=fun L f h=>match L with
  |0=>J.a0 (f 0) h
  |_=>False
noncomputable def u35:Cuts:=[(.root,0)]
noncomputable def d36:Code:=Option.rec .skip (fun c=>c) Go.Proofs.Tryz.f36.body
noncomputable def q36:Plans:=[]
structure J36 where
  a0:Nat→Nat→H→Prop
noncomputable def s36_0 (c:Caller Prop FT) (k:KV) (_J:J36) (l_0:Nat) (c_0:Nat) (h:H):Prop:=
 cnd (iblt (Int.ofNat 65536) (Int.ofNat l_0))
 (k (.tuple [.nilp,(.int .i64 (Int.ofNat 4))]) h)
 (c (.func 61) [(.str l_0 c_0)] h fun v1 h2=>
 c (.func 60) [v1] h2 fun v3 h4=>
 k (.tuple [v3,(.int .i64 (Int.ofNat 0))]) h4)
noncomputable def z36:J36:=⟨fun _ _ _=>False⟩
noncomputable def r36 (c:Caller Prop FT) (k:KV) (m:Nat):J36:=Nat.rec z36 (fun _ J=>⟨s36_0 c k J⟩) m
noncomputable def f36 (J:J36):Jump:=fun L f h=>match L with
  |0=>asS (f 0) fun l_0 c_0=>J.a0 l_0 c_0 h
  |_=>False
noncomputable def u36:Cuts:=[(.root,0)]
noncomputable def d37:Code:=Option.rec .skip (fun c=>c) Go.Proofs.Tryz.f37.body
noncomputable def q37:Plans:=[]
structure J37 where
  a0:AV→Nat→Nat→AV→Int→H→Prop
noncomputable def s37_0 (c:Caller Prop FT) (k:KV) (_J:J37) (v_0:AV) (l_1:Nat) (c_1:Nat) (v_2:AV) (n_3:Int) (h:H):Prop:=
 cnd (ibeq n_3 (Int.ofNat 0))
 (oK (exNil v_0 h) fun v1 h2=>
 fAddr 1 v1 fun v3=>
 ld1 v3 h2 fun v4=>
 oK (exMapUpdate env 84 v4 (.str l_1 c_1) v_2 h2) fun _ h6=>
 c (.func 62) [v_0,(.str l_1 c_1)] h6 fun _ h8=>
 k (.int .i64 n_3) h8)
 (k (.int .i64 n_3) h)
noncomputable def z37:J37:=⟨fun _ _ _ _ _ _=>False⟩
noncomputable def r37 (c:Caller Prop FT) (k:KV) (m:Nat):J37:=Nat.rec z37 (fun _ J=>⟨s37_0 c k J⟩) m
noncomputable def f37 (J:J37):Jump:=fun L f h=>match L with
  |0=>asS (f 1) fun l_1 c_1=>asI .i64 (f 3) fun n_3=>J.a0 (f 0) l_1 c_1 (f 2) n_3 h
  |_=>False
noncomputable def u37:Cuts:=[(.root,0)]
noncomputable def d38:Code:=Option.rec .skip (fun c=>c) Go.Proofs.Tryz.f38.body
noncomputable def q38:Plans:=[(4,[0,1,2,3,4,5,6,7,8,9,10,11,12,13,14,15,16,17,18,19,20,21])]
structure J38 where
  a0:AV→Nat→Nat→H→Prop
  a1:AV→Nat→Nat→Int→H→Prop
noncomputable def s38_0 (_c:Caller Prop FT) (_k:KV) (J:J38) (v_0:AV) (l_1:Nat) (c_1:Nat) (h:H):Prop:=
 J.a1 v_0 l_1 c_1 (Int.ofNat 0) h
noncomputable def s38_1 (_c:Caller Prop FT) (k:KV) (J:J38) (v_0:AV) (l_1:Nat) (c_1:Nat) (n_6:Int) (h:H):Prop:=
 oK (exNil v_0 h) fun v1 h2=>
 fAddr 1 v1 fun v3=>
 ld1 v3 h2 fun v4=>
 lenV v4 fun m5=>
 joinB (fun k6=>gate true (iblt n_6 (Int.ofNat m5))
 (oK (exNil v_0 h2) fun v9 h10=>
 fAddr 1 v9 fun v11=>
 ld1 v11 h10 fun v12=>
 natI n_6 fun m13=>
 elemA 2 m13 v12 fun v14=>
 fAddr 0 v14 fun v15=>
 ld1 v15 h10 fun v16=>
 asS v16 fun l17 c18=>
 k6 (ltS l17 c18 l_1 c_1) h10)
 (k6 false h2)) fun b8 h7=>
 cnd b8
 (fI (wrap .i64 (iadd n_6 (Int.ofNat 1))) fun n19=>
 J.a1 v_0 l_1 c_1 n19 h7)
 (oK (exNil v_0 h7) fun v20 h21=>
 fAddr 1 v20 fun v22=>
 ld1 v22 h21 fun v23=>
 lenV v23 fun m24=>
 joinB (fun k25=>gate true (iblt n_6 (Int.ofNat m24))
 (oK (exNil v_0 h21) fun v28 h29=>
 fAddr 1 v28 fun v30=>
 ld1 v30 h29 fun v31=>
 natI n_6 fun m32=>
 elemA 2 m32 v31 fun v33=>
 fAddr 0 v33 fun v34=>
 ld1 v34 h29 fun v35=>
 asS v35 fun l36 c37=>
 k25 (strEq l36 c37 l_1 c_1) h29)
 (k25 false h21)) fun b27 h26=>
 k (.tuple [(.int .i64 n_6),(.bool b27)]) h26)
noncomputable def z38:J38:=⟨fun _ _ _ _=>False,fun _ _ _ _ _=>False⟩
noncomputable def r38 (c:Caller Prop FT) (k:KV) (m:Nat):J38:=Nat.rec z38 (fun _ J=>⟨s38_0 c k J,s38_1 c k J⟩) m
noncomputable def f38 (J:J38):Jump:=fun L f h=>match L with
  |0=>asS (f 1) fun l_1 c_1=>J.a0 (f 0) l_1 c_1 h
  |1=>asS (f 1) fun l_1 c_1=>asI .i64 (f 6) fun n_6=>J.a1 (f 0) l_1 c_1 n_6 h
  |_=>False
noncomputable def u38:Cuts:=[(.root,0),((.l (.l (.r (.r .root)))),1)]
noncomputable def d39:Code:=Option.rec .skip (fun c=>c) Go.Proofs.Tryz.f39.body
noncomputable def q39:Plans:=[]
structure J39 where
  a0:AV→Nat→Nat→Nat→Nat→H→Prop
  a1:AV→Nat→Nat→Nat→Nat→Int→AV→H→Prop
noncomputable def s39_0 (c:Caller Prop FT) (_k:KV) (J:J39) (v_0:AV) (l_1:Nat) (c_1:Nat) (l_2:Nat) (c_2:Nat) (h:H):Prop:=
 c (.func 38) [v_0,(.str l_1 c_1)] h fun v1 h2=>
 ext 0 v1 fun v3=>
 asI .i64 v3 fun n4=>
 ext 1 v1 fun v5=>
 asB v5 fun b6=>
 oK (exNil v_0 h2) fun v7 h8=>
 fAddr 1 v7 fun v9=>
 ld1 v9 h8 fun v10=>
 oK (slice3 env h8 64 v10 (some (natOf (.int .i64 n4))) none none) fun v11 h12=>
 cnd b6
 (oK (exNil v_0 h12) fun v13 h14=>
 fAddr 1 v13 fun v15=>
 ld1 v15 h14 fun v16=>
 fI (wrap .i64 (iadd n4 (Int.ofNat 1))) fun n17=>
 oK (slice3 env h14 64 v16 (some (natOf (.int .i64 n17))) none none) fun v18 h19=>
 J.a1 v_0 l_1 c_1 l_2 c_2 n4 v18 h19)
 (J.a1 v_0 l_1 c_1 l_2 c_2 n4 v11 h12)
noncomputable def s39_1 (c:Caller Prop FT) (k:KV) (_J:J39) (v_0:AV) (l_1:Nat) (c_1:Nat) (l_2:Nat) (c_2:Nat) (n_6:Int) (v_8:AV) (h:H):Prop:=
 oK (withElem env 64 (fun e ei=>exBuildSlice 0 [] h e ei)) fun v20 h21=>
 oK (exNil v_0 h21) fun v22 h23=>
 fAddr 1 v22 fun v24=>
 ld1 v24 h23 fun v25=>
 oK (slice3 env h23 64 v25 none (some (natOf (.int .i64 n_6))) none) fun v26 h27=>
 oK (builtinA env .append [64,64] [v20,v26] h27) fun v28 h29=>
 oK (exBuild env (env.ty 99) [(0,(.str l_1 c_1)),(1,(.str l_2 c_2))] h29) fun v30 h31=>
 oK (withElem env 64 (fun e ei=>exBuildSlice 1 [(0,v30)] h31 e ei)) fun v32 h33=>
 oK (builtinA env .append [64,64] [v28,v32] h33) fun v34 h35=>
 oK (builtinA env .append [64,64] [v34,v_8] h35) fun v36 h37=>
 oK (exNil v_0 h37) fun v38 h39=>
 fAddr 1 v38 fun v40=>
 st1 v40 v36 h39 fun h41=>
 c (.func 63) [v_0,(.str l_1 c_1)] h41 fun _ h43=>
 k (.tuple []) h43
noncomputable def z39:J39:=⟨fun _ _ _ _ _ _=>False,fun _ _ _ _ _ _ _ _=>False⟩
noncomputable def r39 (c:Caller Prop FT) (k:KV) (m:Nat):J39:=Nat.rec z39 (fun _ J=>⟨s39_0 c k J,s39_1 c k J⟩) m
noncomputable def f39 (J:J39):Jump:=fun L f h=>match L with
  |0=>asS (f 1) fun l_1 c_1=>asS (f 2) fun l_2 c_2=>J.a0 (f 0) l_1 c_1 l_2 c_2 h
  |1=>asS (f 1) fun l_1 c_1=>asS (f 2) fun l_2 c_2=>asI .i64 (f 6) fun n_6=>J.a1 (f 0) l_1 c_1 l_2 c_2 n_6 (f 8) h
  |_=>False
noncomputable def u39:Cuts:=[(.root,0),((.r (.r (.r .root))),1)]
noncomputable def d40:Code:=Option.rec .skip (fun c=>c) Go.Proofs.Tryz.f40.body
noncomputable def q40:Plans:=[]
structure J40 where
  a0:AV→Nat→Nat→H→Prop
noncomputable def s40_0 (_c:Caller Prop FT) (k:KV) (_J:J40) (v_0:AV) (l_1:Nat) (c_1:Nat) (h:H):Prop:=
 oV (binA env .eql 29 v_0 .nilp) fun v1=>
 asB v1 fun b2=>
 cnd b2
 (k (.tuple [.nilp,(.bool false)]) h)
 (oK (exNil v_0 h) fun v3 h4=>
 fAddr 1 v3 fun v5=>
 ld1 v5 h4 fun v6=>
 oK (exLookup env 84 v6 (.str l_1 c_1) true h4) fun v7 h8=>
 ext 0 v7 fun v9=>
 ext 1 v7 fun v10=>
 asB v10 fun b11=>
 k (.tuple [v9,(.bool b11)]) h8)
noncomputable def z40:J40:=⟨fun _ _ _ _=>False⟩
noncomputable def r40 (c:Caller Prop FT) (k:KV) (m:Nat):J40:=Nat.rec z40 (fun _ J=>⟨s40_0 c k J⟩) m
noncomputable def f40 (J:J40):Jump:=fun L f h=>match L with
  |0=>asS (f 1) fun l_1 c_1=>J.a0 (f 0) l_1 c_1 h
  |_=>False
noncomputable def u40:Cuts:=[(.root,0)]
noncomputable def d41:Code:=Option.rec .skip (fun c=>c) Go.Proofs.Tryz.f41.body
noncomputable def q41:Plans:=[]
structure J41 where
  a0:AV→H→Prop
noncomputable def s41_0 (_c:Caller Prop FT) (k:KV) (_J:J41) (v_0:AV) (h:H):Prop:=
 oV (binA env .eql 88 v_0 .nilp) fun v1=>
 asB v1 fun b2=>
 cnd b2
 (k (.int .i64 (Int.ofNat 0)) h)
 (oK (exNil v_0 h) fun v3 h4=>
 fAddr 3 v3 fun v5=>
 ld1 v5 h4 fun v6=>
 asI .i64 v6 fun n7=>
 k (.int .i64 n7) h4)
noncomputable def z41:J41:=⟨fun _ _=>False⟩
noncomputable def r41 (c:Caller Prop FT) (k:KV) (m:Nat):J41:=Nat.rec z41 (fun _ J=>⟨s41_0 c k J⟩) m
noncomputable def f41 (J:J41):Jump:=fun L f h=>match L with
  |0=>J.a0 (f 0) h
  |_=>False
noncomputable def u41:Cuts:=[(.root,0)]
noncomputable def d42:Code:=Option.rec .skip (fun c=>c) Go.Proofs.Tryz.f42.body
noncomputable def q42:Plans:=[]
structure J42 where
  a0:Nat→Nat→Int→Int→H→Prop
  a1:Int→Int→AV→AV→Int→Int→H→Prop
noncomputable def s42_0 (c:Caller Prop FT) (_k:KV) (J:J42) (l_0:Nat) (c_0:Nat) (n_1:Int) (n_2:Int) (h:H):Prop:=
 Hp.newK h ob160 fun p1 h2=>
 c (.func 64) [(.str l_0 c_0)] h2 fun v3 h4=>
 lenV v3 fun m5=>
 J.a1 n_1 n_2 (.ptr p1 0) v3 (Int.ofNat m5) (Int.ofNat 0) h4
noncomputable def s42_1 (c:Caller Prop FT) (k:KV) (J:J42) (n_1:Int) (n_2:Int) (v_7:AV) (v_11:AV) (n_12:Int) (n_13:Int) (h:H):Prop:=
 cnd (iblt n_13 n_12)
 (natI n_13 fun m6=>
 elemA 3 m6 v_11 fun v7=>
 ldn 3 v7 h fun v8=>
 Hp.newK h ob163 fun p9 h10=>
 stn 3 (.ptr p9 0) v8 h10 fun h11=>
 fAddr 1 (.ptr p9 0) fun v12=>
 ld1 v12 h11 fun v13=>
 asI .i64 v13 fun n14=>
 joinB (fun k15=>gate true (ible n_1 n14)
 (fAddr 2 (.ptr p9 0) fun v18=>
 ld1 v18 h11 fun v19=>
 asI .i64 v19 fun n20=>
 k15 (ible n20 n_2) h11)
 (k15 false h11)) fun b17 h16=>
 cnd b17
 (fAddr 0 (.ptr p9 0) fun v21=>
 ld1 v21 h16 fun v22=>
 asI .u8 v22 fun n23=>
 c (.func 65) [v_7,(.int .u8 n23)] h16 fun _ h25=>
 fI (wrap .i64 (iadd n_13 (Int.ofNat 1))) fun n26=>
 J.a1 n_1 n_2 v_7 v_11 n_12 n26 h25)
 (fI (wrap .i64 (iadd n_13 (Int.ofNat 1))) fun n27=>
 J.a1 n_1 n_2 v_7 v_11 n_12 n27 h16))
 (c (.func 66) [v_7] h fun v28 h29=>
 asS v28 fun l30 c31=>
 k (.str l30 c31) h29)
noncomputable def z42:J42:=⟨fun _ _ _ _ _=>False,fun _ _ _ _ _ _ _=>False⟩
noncomputable def r42 (c:Caller Prop FT) (k:KV) (m:Nat):J42:=Nat.rec z42 (fun _ J=>⟨s42_0 c k J,s42_1 c k J⟩) m
noncomputable def f42 (J:J42):Jump:=fun L f h=>match L with
  |0=>asS (f 0) fun l_0 c_0=>asI .i64 (f 1) fun n_1=>asI .i64 (f 2) fun n_2=>J.a0 l_0 c_0 n_1 n_2 h
  |1=>asI .i64 (f 1) fun n_1=>asI .i64 (f 2) fun n_2=>asI .i64 (f 12) fun n_12=>asI .i64 (f 13) fun n_13=>J.a1 n_1 n_2 (f 7) (f 11) n_12 n_13 h
  |_=>False
noncomputable def u42:Cuts:=[(.root,0),((.l (.r (.l (.r (.r .root))))),1)]
noncomputable def d43:Code:=Option.rec .skip (fun c=>c) Go.Proofs.Tryz.f43.body
noncomputable def q43:Plans:=[]
structure J43 where
  a0:AV→H→Prop
noncomputable def s43_0 (c:Caller Prop FT) (k:KV) (_J:J43) (v_0:AV) (h:H):Prop:=
 Hp.newK h ob160 fun p1 h2=>
 c (.func 67) [v_0,(.func (.func 68) [] [(.ptr p1 0)])] h2 fun _ h4=>
 c (.func 66) [(.ptr p1 0)] h4 fun v5 h6=>
 asS v5 fun l7 c8=>
 k (.str l7 c8) h6
noncomputable def z43:J43:=⟨fun _ _=>False⟩
noncomputable def r43 (c:Caller Prop FT) (k:KV) (m:Nat):J43:=Nat.rec z43 (fun _ J=>⟨s43_0 c k J⟩) m
noncomputable def f43 (J:J43):Jump:=fun L f h=>match L with
  |0=>J.a0 (f 0) h
  |_=>False
noncomputable def u43:Cuts:=[(.root,0)]
noncomputable def d44:Code:=Option.rec .skip (fun c=>c) Go.Proofs.Tryz.f44.body
noncomputable def q44:Plans:=[]
noncomputable def u44:Cuts:=[(.root,0)]
noncomputable def d45:Code:=Option.rec .skip (fun c=>c) Go.Proofs.Tryz.f45.body
noncomputable def q45:Plans:=[]
noncomputable def u45:Cuts:=[(.root,0)]
noncomputable def d46:Code:=Option.rec .skip (fun c=>c) Go.Proofs.Tryz.f46.body
noncomputable def q46:Plans:=[]
noncomputable def u46:Cuts:=[(.root,0)]
noncomputable def d47:Code:=Option.rec .skip (fun c=>c) Go.Proofs.Tryz.f47.body
noncomputable def q47:Plans:=[(1,[0,1,2,3,4,5,6,9,7,8,10]),(5,[0,1,2,3,4,5,6,7,8,9,10,11,12])]
noncomputable def u47:Cuts:=[(.root,0),((.l (.r (.l (.r (.r (.r (.r (.r (.r (.r .root)))))))))),1),((.r (.r (.r (.r (.r (.r (.r .root))))))),2)]
noncomputable def d48:Code:=Option.rec .skip (fun c=>c) Go.Proofs.Tryz.f48.body
noncomputable def q48:Plans:=[]
noncomputable def u48:Cuts:=[(.root,0)]
noncomputable def d49:Code:=Option.rec .skip (fun c=>c) Go.Proofs.Tryz.f49.body
noncomputable def q49:Plans:=[]
noncomputable def u49:Cuts:=[(.root,0)]
noncomputable def d50:Code:=Option.rec .skip (fun c=>c) Go.Proofs.Tryz.f50.body
noncomputable def q50:Plans:=[(3,[0,1,2,3,4,5,6,7,8,9]),(6,[0,1,2,3,4,5,6,7,8,9]),(7,[0,1,2,3,4,5,6,7,8,9,10,11,12]),(13,[0,1,2,3,4,5,6])]
noncomputable def u50:Cuts:=[(.root,0),((.l (.l (.r (.r (.r .root))))),1),((.r (.r (.l (.r (.l (.l (.l (.r (.r (.r .root)))))))))),2),((.r (.r (.r (.r (.r .root))))),3)]
noncomputable def d51:Code:=Option.rec .skip (fun c=>c) Go.Proofs.Tryz.f51.body
noncomputable def q51:Plans:=[]
noncomputable def u51:Cuts:=[(.root,0)]
noncomputable def d52:Code:=Option.rec .skip (fun c=>c) Go.Proofs.Tryz.f52.body
noncomputable def q52:Plans:=[]
noncomputable def u52:Cuts:=[(.root,0)]
noncomputable def d53:Code:=Option.rec .skip (fun c=>c) Go.Proofs.Tryz.f53.body
noncomputable def q53:Plans:=[(3,[0,1,2,3,4,5,6,7,8,9,10,11,12,13,14])]
noncomputable def u53:Cuts:=[(.root,0),((.l (.l (.r .root))),1)]
noncomputable def d54:Code:=Option.rec .skip (fun c=>c) Go.Proofs.Tryz.f54.body
noncomputable def q54:Plans:=[]
structure J54 where
  a0:Int→H→Prop
  a1:Int→Int→H→Prop
noncomputable def s54_0 (_c:Caller Prop FT) (_k:KV) (J:J54) (n_0:Int) (h:H):Prop:=
 J.a1 n_0 (Int.ofNat 0) h
noncomputable def s54_1 (_c:Caller Prop FT) (k:KV) (J:J54) (n_0:Int) (n_4:Int) (h:H):Prop:=
 cnd (iblt n_4 (Int.ofNat 9))
 (natI n_4 fun m1=>
 idxS 9 834587979106535026493 m1 fun m2=>
 cnd (ibeq (Int.ofNat m2) n_0)
 (natI n_4 fun m3=>
 idxS 9 2333331710704686619683 m3 fun m4=>
 k (.tuple [(.int .u8 (Int.ofNat m4)),(.bool true)]) h)
 (fI (wrap .i64 (iadd n_4 (Int.ofNat 1))) fun n5=>
 J.a1 n_0 n5 h))
 (k (.tuple [(.int .u8 (Int.ofNat 0)),(.bool false)]) h)
noncomputable def z54:J54:=⟨fun _ _=>False,fun _ _ _=>False⟩
noncomputable def r54 (c:Caller Prop FT) (k:KV) (m:Nat):J54:=Nat.rec z54 (fun _ J=>⟨s54_0 c k J,s54_1 c k J⟩) m
noncomputable def f54 (J:J54):Jump:=fun L f h=>match L with
  |0=>asI .u8 (f 0) fun n_0=>J.a0 n_0 h
  |1=>asI .u8 (f 0) fun n_0=>asI .i64 (f 4) fun n_4=>J.a1 n_0 n_4 h
  |_=>False
noncomputable def u54:Cuts:=[(.root,0),((.l (.r (.l (.r .root)))),1)]
noncomputable def d55:Code:=Option.rec .skip (fun c=>c) Go.Proofs.Tryz.f55.body
noncomputable def q55:Plans:=[]
structure J55 where
  a0:Nat→Nat→H→Prop
  a1:Nat→Nat→AV→Int→Int→H→Prop
  a2:Nat→Nat→AV→Int→Int→H→Prop
noncomputable def s55_0 (_c:Caller Prop FT) (_k:KV) (J:J55) (l_0:Nat) (c_0:Nat) (h:H):Prop:=
 J.a1 l_0 c_0 .nils (Int.ofNat 0) (Int.ofNat 0) h
noncomputable def s55_1 (_c:Caller Prop FT) (k:KV) (J:J55) (l_0:Nat) (c_0:Nat) (v_3:AV) (n_4:Int) (n_5:Int) (h:H):Prop:=
 cnd (ible n_5 (Int.ofNat l_0))
 (joinB (fun k1=>gate false (ibeq n_5 (Int.ofNat l_0))
 (natI n_5 fun m4=>
 idxS l_0 c_0 m4 fun m5=>
 k1 (ibeq (Int.ofNat m5) (Int.ofNat 47)) h)
 (k1 true h)) fun b3 h2=>
 cnd b3
 (natI n_5 fun m6=>
 natI n_4 fun m7=>
 cutS l_0 c_0 m7 m6 fun l8 c9=>
 oK (withElem env 48 (fun e ei=>exBuildSlice 1 [(0,(.str l8 c9))] h2 e ei)) fun v10 h11=>
 oK (builtinA env .append [48,48] [v_3,v10] h11) fun v12 h13=>
 fI (wrap .i64 (iadd n_5 (Int.ofNat 1))) fun n14=>
 J.a2 l_0 c_0 v12 n14 n_5 h13)
 (J.a2 l_0 c_0 v_3 n_4 n_5 h2))
 (k v_3 h)
noncomputable def s55_2 (_c:Caller Prop FT) (_k:KV) (J:J55) (l_0:Nat) (c_0:Nat) (v_3:AV) (n_4:Int) (n_5:Int) (h:H):Prop:=
 fI (wrap .i64 (iadd n_5 (Int.ofNat 1))) fun n15=>
 J.a1 l_0 c_0 v_3 n_4 n15 h
noncomputable def z55:J55:=⟨fun _ _ _=>False,fun _ _ _ _ _ _=>False,fun _ _ _ _ _ _=>False⟩
noncomputable def r55 (c:Caller Prop FT) (k:KV) (m:Nat):J55:=Nat.rec z55 (fun _ J=>⟨s55_0 c k J,s55_1 c k J,s55_2 c k J⟩) m
noncomputable def f55 (J:J55):Jump:=fun L f h=>match L with
  |0=>asS (f 0) fun l_0 c_0=>J.a0 l_0 c_0 h
  |1=>asS (f 0) fun l_0 c_0=>asI .i64 (f 4) fun n_4=>asI .i64 (f 5) fun n_5=>J.a1 l_0 c_0 (f 3) n_4 n_5 h
  |2=>asS (f 0) fun l_0 c_0=>asI .i64 (f 4) fun n_4=>asI .i64 (f 5) fun n_5=>J.a2 l_0 c_0 (f 3) n_4 n_5 h
  |_=>False
noncomputable def u55:Cuts:=[(.root,0),((.l (.r (.l (.r (.r (.r .root)))))),1),((.r (.r (.l (.l (.r (.l (.r (.r (.r .root))))))))),2)]
noncomputable def d56:Code:=Option.rec .skip (fun c=>c) Go.Proofs.Tryz.f56.body
noncomputable def q56:Plans:=[]
structure J56 where
  a0:Nat→Nat→H→Prop
  a1:Nat→Nat→Int→H→Prop
noncomputable def s56_0 (_c:Caller Prop FT) (_k:KV) (J:J56) (l_0:Nat) (c_0:Nat) (h:H):Prop:=
 J.a1 l_0 c_0 (Int.ofNat 0) h
noncomputable def s56_1 (_c:Caller Prop FT) (k:KV) (J:J56) (l_0:Nat) (c_0:Nat) (n_3:Int) (h:H):Prop:=
 cnd (iblt n_3 (Int.ofNat l_0))
 (natI n_3 fun m1=>
 idxS l_0 c_0 m1 fun m2=>
 joinB (fun k3=>gate false (iblt (Int.ofNat m2) (Int.ofNat 97))
 (k3 (iblt (Int.ofNat 122) (Int.ofNat m2)) h)
 (k3 true h)) fun b5 h4=>
 joinB (fun k6=>gate true b5
 (joinB (fun k9=>gate false (iblt (Int.ofNat m2) (Int.ofNat 65))
 (k9 (iblt (Int.ofNat 90) (Int.ofNat m2)) h4)
 (k9 true h4)) fun b11 h10=>
 k6 b11 h10)
 (k6 false h4)) fun b8 h7=>
 joinB (fun k12=>gate true b8
 (joinB (fun k15=>gate false (iblt (Int.ofNat m2) (Int.ofNat 48))
 (k15 (iblt (Int.ofNat 57) (Int.ofNat m2)) h7)
 (k15 true h7)) fun b17 h16=>
 k12 b17 h16)
 (k12 false h7)) fun b14 h13=>
 joinB (fun k18=>gate true b14
 (k18 (bnot (ibeq (Int.ofNat m2) (Int.ofNat 46))) h13)
 (k18 false h13)) fun b20 h19=>
 joinB (fun k21=>gate true b20
 (k21 (bnot (ibeq (Int.ofNat m2) (Int.ofNat 45))) h19)
 (k21 false h19)) fun b23 h22=>
 joinB (fun k24=>gate true b23
 (k24 (bnot (ibeq (Int.ofNat m2) (Int.ofNat 95))) h22)
 (k24 false h22)) fun b26 h25=>
 cnd b26
 (k (.bool false) h25)
 (fI (wrap .i64 (iadd n_3 (Int.ofNat 1))) fun n27=>
 J.a1 l_0 c_0 n27 h25))
 (joinB (fun k28=>gate true (ible (Int.ofNat 1) (Int.ofNat l_0))
 (k28 (ible (Int.ofNat l_0) (Int.ofNat 20)) h)
 (k28 false h)) fun b30 h29=>
 joinB (fun k31=>gate true b30
 (k31 (bnot (strEq l_0 c_0 1 46)) h29)
 (k31 false h29)) fun b33 h32=>
 joinB (fun k34=>gate true b33
 (k34 (bnot (strEq l_0 c_0 2 11822)) h32)
 (k34 false h32)) fun b36 h35=>
 k (.bool b36) h35)
noncomputable def z56:J56:=⟨fun _ _ _=>False,fun _ _ _ _=>False⟩
noncomputable def r56 (c:Caller Prop FT) (k:KV) (m:Nat):J56:=Nat.rec z56 (fun _ J=>⟨s56_0 c k J,s56_1 c k J⟩) m
noncomputable def f56 (J:J56):Jump:=fun L f h=>match L with
  |0=>asS (f 0) fun l_0 c_0=>J.a0 l_0 c_0 h
  |1=>asS (f 0) fun l_0 c_0=>asI .i64 (f 3) fun n_3=>J.a1 l_0 c_0 n_3 h
  |_=>False
noncomputable def u56:Cuts:=[(.root,0),((.l (.r (.l (.r .root)))),1)]
noncomputable def d57:Code:=Option.rec .skip (fun c=>c) Go.Proofs.Tryz.f57.body
noncomputable def q57:Plans:=[]
structure J57 where
  a0:Nat→Nat→Nat→Nat→H→Prop
noncomputable def s57_0 (c:Caller Prop FT) (k:KV) (_J:J57) (l_0:Nat) (c_0:Nat) (l_1:Nat) (c_1:Nat) (h:H):Prop:=
 c (.func 81) [(.str l_0 c_0),(.str l_1 c_1),(.int .i64 (Int.ofNat 0))] h fun v1 h2=>
 k v1 h2
noncomputable def z57:J57:=⟨fun _ _ _ _ _=>False⟩
noncomputable def r57 (c:Caller Prop FT) (k:KV) (m:Nat):J57:=Nat.rec z57 (fun _ J=>⟨s57_0 c k J⟩) m
noncomputable def f57 (J:J57):Jump:=fun L f h=>match L with
  |0=>asS (f 0) fun l_0 c_0=>asS (f 1) fun l_1 c_1=>J.a0 l_0 c_0 l_1 c_1 h
  |_=>False
noncomputable def u57:Cuts:=[(.root,0)]
noncomputable def d58:Code:=Option.rec .skip (fun c=>c) Go.Proofs.Tryz.f58.body
noncomputable def q58:Plans:=[]
structure J58 where
  a0:Nat→Nat→H→Prop
  a1:Nat→Nat→Bool→Int→H→Prop
noncomputable def s58_0 (_c:Caller Prop FT) (_k:KV) (J:J58) (l_0:Nat) (c_0:Nat) (h:H):Prop:=
 joinB (fun k1=>gate true (bnot (strEq l_0 c_0 0 0))
 (k1 (ible (Int.ofNat l_0) (Int.ofNat 20)) h)
 (k1 false h)) fun b3 h2=>
 joinB (fun k4=>gate true b3
 (k4 (bnot (strEq l_0 c_0 1 46)) h2)
 (k4 false h2)) fun b6 h5=>
 joinB (fun k7=>gate true b6
 (k7 (bnot (strEq l_0 c_0 2 11822)) h5)
 (k7 false h5)) fun b9 h8=>
 J.a1 l_0 c_0 b9 (Int.ofNat 0) h8
noncomputable def s58_1 (c:Caller Prop FT) (k:KV) (J:J58) (l_0:Nat) (c_0:Nat) (b_3:Bool) (n_4:Int) (h:H):Prop:=
 joinB (fun k10=>gate true (iblt n_4 (Int.ofNat l_0))
 (k10 b_3 h)
 (k10 false h)) fun b12 h11=>
 cnd b12
 (natI n_4 fun m13=>
 idxS l_0 c_0 m13 fun m14=>
 c (.func 82) [(.int .u8 (Int.ofNat m14))] h11 fun v15 h16=>
 asB v15 fun b17=>
 fI (wrap .i64 (iadd n_4 (Int.ofNat 1))) fun n18=>
 J.a1 l_0 c_0 b17 n18 h16)
 (k (.bool b_3) h11)
noncomputable def z58:J58:=⟨fun _ _ _=>False,fun _ _ _ _ _=>False⟩
noncomputable def r58 (c:Caller Prop FT) (k:KV) (m:Nat):J58:=Nat.rec z58 (fun _ J=>⟨s58_0 c k J,s58_1 c k J⟩) m
noncomputable def f58 (J:J58):Jump:=fun L f h=>match L with
  |0=>asS (f 0) fun l_0 c_0=>J.a0 l_0 c_0 h
  |1=>asS (f 0) fun l_0 c_0=>asB (f 3) fun b_3=>asI .i64 (f 4) fun n_4=>J.a1 l_0 c_0 b_3 n_4 h
  |_=>False
noncomputable def u58:Cuts:=[(.root,0),((.l (.r (.l (.r (.r .root))))),1)]
noncomputable def d59:Code:=Option.rec .skip (fun c=>c) Go.Proofs.Tryz.f59.body
noncomputable def q59:Plans:=[]
structure J59 where
  a0:AV→AV→H→Prop
  a1:AV→AV→Int→Int→H→Prop
noncomputable def s59_0 (_c:Caller Prop FT) (_k:KV) (J:J59) (v_0:AV) (v_1:AV) (h:H):Prop:=
 lenV v_0 fun m1=>
 J.a1 v_0 v_1 (Int.ofNat m1) (Int.ofNat 0) h
noncomputable def s59_1 (c:Caller Prop FT) (k:KV) (J:J59) (v_0:AV) (v_1:AV) (n_7:Int) (n_8:Int) (h:H):Prop:=
 cnd (iblt n_8 n_7)
 (natI n_8 fun m2=>
 elemA 1 m2 v_0 fun v3=>
 ld1 v3 h fun v4=>
 asS v4 fun l5 c6=>
 callV (CP env) c v_1 [(.str l5 c6)] h fun v7 h8=>
 asB v7 fun b9=>
 cnd b9
 (k (.int .i64 n_8) h8)
 (fI (wrap .i64 (iadd n_8 (Int.ofNat 1))) fun n10=>
 J.a1 v_0 v_1 n_7 n10 h8))
 (k (.int .i64 (Int.negSucc 0)) h)
noncomputable def z59:J59:=⟨fun _ _ _=>False,fun _ _ _ _ _=>False⟩
noncomputable def r59 (c:Caller Prop FT) (k:KV) (m:Nat):J59:=Nat.rec z59 (fun _ J=>⟨s59_0 c k J,s59_1 c k J⟩) m
noncomputable def f59 (J:J59):Jump:=fun L f h=>match L with
  |0=>J.a0 (f 0) (f 1) h
  |1=>asI .i64 (f 7) fun n_7=>asI .i64 (f 8) fun n_8=>J.a1 (f 0) (f 1) n_7 n_8 h
  |_=>False
noncomputable def u59:Cuts:=[(.root,0),((.l (.r (.l (.r .root)))),1)]
noncomputable def d60:Code:=Option.rec .skip (fun c=>c) Go.Proofs.Tryz.f60.body
noncomputable def q60:Plans:=[]
structure J60 where
  a0:AV→H→Prop
noncomputable def s60_0 (_c:Caller Prop FT) (k:KV) (_J:J60) (v_0:AV) (h:H):Prop:=
 oV (binA env .eql 88 v_0 .nilp) fun v1=>
 asB v1 fun b2=>
 cnd b2
 (oK (exBuild env (env.ty 157) [] h) fun v3 h4=>
 asG v3 fun g5=>
 chk (Nat.ble 1 (len g5))<|
 Hp.newK h4 (rowOf 157 g5) fun p6 h7=>
 k (.ptr p6 0) h7)
 (k v_0 h)
noncomputable def z60:J60:=⟨fun _ _=>False⟩
noncomputable def r60 (c:Caller Prop FT) (k:KV) (m:Nat):J60:=Nat.rec z60 (fun _ J=>⟨s60_0 c k J⟩) m
noncomputable def f60 (J:J60):Jump:=fun L f h=>match L with
  |0=>J.a0 (f 0) h
  |_=>False
noncomputable def u60:Cuts:=[(.root,0)]
noncomputable def d61:Code:=Option.rec .skip (fun c=>c) Go.Proofs.Tryz.f61.body
noncomputable def q61:Plans:=[(4,[0,1,2,4,5,6,3,7,8,9])]
structure J61 where
  a0:Nat→Nat→H→Prop
noncomputable def s61_0 (c:Caller Prop FT) (k:KV) (_J:J61) (l_0:Nat) (c_0:Nat) (h:H):Prop:=
 cnd (ible (Int.ofNat l_0) (Int.ofNat 256))
 (c (.func 83) [(.str l_0 c_0)] h fun v1 h2=>
 k v1 h2)
 (quoI .i64 (Int.ofNat l_0) (Int.ofNat 2) fun n3=>
 natI n3 fun m4=>
 cutS l_0 c_0 0 m4 fun l5 c6=>
 natI n3 fun m7=>
 cutS l_0 c_0 m7 l_0 fun l8 c9=>
 c (.func 61) [(.str l5 c6)] h fun v10 h11=>
 c (.func 61) [(.str l8 c9)] h11 fun v12 h13=>
 c (.func 84) [v10,v12] h13 fun v14 h15=>
 k v14 h15)
noncomputable def z61:J61:=⟨fun _ _ _=>False⟩
noncomputable def r61 (c:Caller Prop FT) (k:KV) (m:Nat):J61:=Nat.rec z61 (fun _ J=>⟨s61_0 c k J⟩) m
noncomputable def f61 (J:J61):Jump:=fun L f h=>match L with
  |0=>asS (f 0) fun l_0 c_0=>J.a0 l_0 c_0 h
  |_=>False
noncomputable def u61:Cuts:=[(.root,0)]
noncomputable def d62:Code:=Option.rec .skip (fun c=>c) Go.Proofs.Tryz.f62.body
noncomputable def q62:Plans:=[]
structure J62 where
  a0:AV→Nat→Nat→H→Prop
  a1:AV→Nat→Nat→H→Prop
noncomputable def s62_0 (_c:Caller Prop FT) (_k:KV) (J:J62) (v_0:AV) (l_1:Nat) (c_1:Nat) (h:H):Prop:=
 oK (exNil v_0 h) fun v1 h2=>
 fAddr 2 v1 fun v3=>
 ld1 v3 h2 fun v4=>
 oK (exLookup env 85 v4 (.str l_1 c_1) false h2) fun v5 h6=>
 oV (binA env .eql 201 v5 .nilp) fun v7=>
 asB v7 fun b8=>
 cnd b8
 (oK (exNil v_0 h6) fun v9 h10=>
 fAddr 2 v9 fun v11=>
 ld1 v11 h10 fun v12=>
 oK (exBuild env (env.ty 175) [] h10) fun v13 h14=>
 asG v13 fun g15=>
 chk (Nat.ble 1 (len g15))<|
 Hp.newK h14 (rowOf 175 g15) fun p16 h17=>
 oK (exMapUpdate env 85 v12 (.str l_1 c_1) (.ptr p16 0) h17) fun _ h19=>
 J.a1 v_0 l_1 c_1 h19)
 (J.a1 v_0 l_1 c_1 h6)
noncomputable def s62_1 (c:Caller Prop FT) (k:KV) (_J:J62) (v_0:AV) (l_1:Nat) (c_1:Nat) (h:H):Prop:=
 oK (exNil v_0 h) fun v20 h21=>
 fAddr 2 v20 fun v22=>
 ld1 v22 h21 fun v23=>
 oK (exLookup env 85 v23 (.str l_1 c_1) false h21) fun v24 h25=>
 c (.func 85) [v24,(.int .i64 (Int.ofNat 1))] h25 fun v26 h27=>
 asI .i64 v26 fun _=>
 k (.tuple []) h27
noncomputable def z62:J62:=⟨fun _ _ _ _=>False,fun _ _ _ _=>False⟩
noncomputable def r62 (c:Caller Prop FT) (k:KV) (m:Nat):J62:=Nat.rec z62 (fun _ J=>⟨s62_0 c k J,s62_1 c k J⟩) m
noncomputable def f62 (J:J62):Jump:=fun L f h=>match L with
  |0=>asS (f 1) fun l_1 c_1=>J.a0 (f 0) l_1 c_1 h
  |1=>asS (f 1) fun l_1 c_1=>J.a1 (f 0) l_1 c_1 h
  |_=>False
noncomputable def u62:Cuts:=[(.root,0),((.r .root),1)]
noncomputable def d63:Code:=Option.rec .skip (fun c=>c) Go.Proofs.Tryz.f63.body
noncomputable def q63:Plans:=[]
structure J63 where
  a0:AV→Nat→Nat→H→Prop
  a1:AV→Nat→Nat→Int→H→Prop
noncomputable def s63_0 (_c:Caller Prop FT) (_k:KV) (J:J63) (v_0:AV) (l_1:Nat) (c_1:Nat) (h:H):Prop:=
 J.a1 v_0 l_1 c_1 (Int.ofNat 0) h
noncomputable def s63_1 (_c:Caller Prop FT) (k:KV) (J:J63) (v_0:AV) (l_1:Nat) (c_1:Nat) (n_4:Int) (h:H):Prop:=
 oK (exNil v_0 h) fun v1 h2=>
 fAddr 2 v1 fun v3=>
 ld1 v3 h2 fun v4=>
 lenV v4 fun m5=>
 cnd (iblt n_4 (Int.ofNat m5))
 (oK (exNil v_0 h2) fun v6 h7=>
 fAddr 2 v6 fun v8=>
 ld1 v8 h7 fun v9=>
 natI n_4 fun m10=>
 elemA 1 m10 v9 fun v11=>
 ld1 v11 h7 fun v12=>
 asS v12 fun l13 c14=>
 cnd (strEq l13 c14 l_1 c_1)
 (oK (withElem env 33 (fun e ei=>exBuildSlice 0 [] h7 e ei)) fun v15 h16=>
 oK (exNil v_0 h16) fun v17 h18=>
 fAddr 3 v17 fun v19=>
 ld1 v19 h18 fun v20=>
 oK (builtinA env .append [33,33] [v15,v20] h18) fun v21 h22=>
 oK (exNil v_0 h22) fun v23 h24=>
 fAddr 3 v23 fun v25=>
 st1 v25 v21 h24 fun h26=>
 oK (exNil v_0 h26) fun v27 h28=>
 fAddr 3 v27 fun v29=>
 ld1 v29 h28 fun v30=>
 natI n_4 fun m31=>
 elemA 1 m31 v30 fun v32=>
 ld1 v32 h28 fun v33=>
 asI .i64 v33 fun n34=>
 fI (wrap .i64 (iadd n34 (Int.ofNat 1))) fun n35=>
 natI n_4 fun m36=>
 elemA 1 m36 v30 fun v37=>
 st1 v37 (.int .i64 n35) h28 fun h38=>
 k (.tuple []) h38)
 (fI (wrap .i64 (iadd n_4 (Int.ofNat 1))) fun n39=>
 J.a1 v_0 l_1 c_1 n39 h7))
 (oK (withElem env 48 (fun e ei=>exBuildSlice 0 [] h2 e ei)) fun v40 h41=>
 oK (exNil v_0 h41) fun v42 h43=>
 fAddr 2 v42 fun v44=>
 ld1 v44 h43 fun v45=>
 oK (builtinA env .append [48,48] [v40,v45] h43) fun v46 h47=>
 oK (withElem env 48 (fun e ei=>exBuildSlice 1 [(0,(.str l_1 c_1))] h47 e ei)) fun v48 h49=>
 oK (builtinA env .append [48,48] [v46,v48] h49) fun v50 h51=>
 oK (exNil v_0 h51) fun v52 h53=>
 fAddr 2 v52 fun v54=>
 st1 v54 v50 h53 fun h55=>
 oK (withElem env 33 (fun e ei=>exBuildSlice 0 [] h55 e ei)) fun v56 h57=>
 oK (exNil v_0 h57) fun v58 h59=>
 fAddr 3 v58 fun v60=>
 ld1 v60 h59 fun v61=>
 oK (builtinA env .append [33,33] [v56,v61] h59) fun v62 h63=>
 oK (withElem env 33 (fun e ei=>exBuildSlice 1 [(0,(.int .i64 (Int.ofNat 1)))] h63 e ei)) fun v64 h65=>
 oK (builtinA env .append [33,33] [v62,v64] h65) fun v66 h67=>
 oK (exNil v_0 h67) fun v68 h69=>
 fAddr 3 v68 fun v70=>
 st1 v70 v66 h69 fun h71=>
 k (.tuple []) h71)
noncomputable def z63:J63:=⟨fun _ _ _ _=>False,fun _ _ _ _ _=>False⟩
noncomputable def r63 (c:Caller Prop FT) (k:KV) (m:Nat):J63:=Nat.rec z63 (fun _ J=>⟨s63_0 c k J,s63_1 c k J⟩) m
noncomputable def f63 (J:J63):Jump:=fun L f h=>match L with
  |0=>asS (f 1) fun l_1 c_1=>J.a0 (f 0) l_1 c_1 h
  |1=>asS (f 1) fun l_1 c_1=>asI .i64 (f 4) fun n_4=>J.a1 (f 0) l_1 c_1 n_4 h
  |_=>False
noncomputable def u63:Cuts:=[(.root,0),((.l (.r (.l .root))),1)]
noncomputable def d64:Code:=Option.rec .skip (fun c=>c) Go.Proofs.Tryz.f64.body
noncomputable def q64:Plans:=[]
structure J64 where
  a0:Nat→Nat→H→Prop
  a1:Nat→Nat→AV→Int→H→Prop
noncomputable def s64_0 (c:Caller Prop FT) (k:KV) (J:J64) (l_0:Nat) (c_0:Nat) (h:H):Prop:=
 cnd (ible (Int.ofNat l_0) (Int.ofNat 0))
 (k .nils h)
 (c (.func 86) [(.str l_0 c_0),(.int .i64 (Int.ofNat 0))] h fun v1 h2=>
 Hp.newK h2 ob163 fun p3 h4=>
 stn 3 (.ptr p3 0) v1 h4 fun h5=>
 fAddr 2 (.ptr p3 0) fun v6=>
 ld1 v6 h5 fun v7=>
 asI .i64 v7 fun n8=>
 fAddr 0 (.ptr p3 0) fun v9=>
 ld1 v9 h5 fun v10=>
 asI .u8 v10 fun n11=>
 joinB (fun k12=>gate true (ibeq n11 (Int.ofNat 92))
 (k12 (iblt n8 (Int.ofNat l_0)) h5)
 (k12 false h5)) fun b14 h13=>
 joinB (fun k15=>gate true b14
 (natI n8 fun m18=>
 idxS l_0 c_0 m18 fun m19=>
 k15 (ibeq (Int.ofNat m19) (Int.ofNat 10)) h13)
 (k15 false h13)) fun b17 h16=>
 cnd b17
 (fI (wrap .i64 (iadd n8 (Int.ofNat 1))) fun n20=>
 J.a1 l_0 c_0 .nils n20 h16)
 (ldn 3 (.ptr p3 0) h16 fun v21=>
 oK (withElem env 161 (fun e ei=>exBuildSlice 1 [(0,v21)] h16 e ei)) fun v22 h23=>
 oK (builtinA env .append [161,161] [.nils,v22] h23) fun v24 h25=>
 J.a1 l_0 c_0 v24 n8 h25))
noncomputable def s64_1 (c:Caller Prop FT) (k:KV) (J:J64) (l_0:Nat) (c_0:Nat) (v_2:AV) (n_3:Int) (h:H):Prop:=
 cnd (ible (Int.ofNat l_0) n_3)
 (k v_2 h)
 (c (.func 86) [(.str l_0 c_0),(.int .i64 n_3)] h fun v26 h27=>
 Hp.newK h27 ob163 fun p28 h29=>
 stn 3 (.ptr p28 0) v26 h29 fun h30=>
 fAddr 2 (.ptr p28 0) fun v31=>
 ld1 v31 h30 fun v32=>
 asI .i64 v32 fun n33=>
 fAddr 0 (.ptr p28 0) fun v34=>
 ld1 v34 h30 fun v35=>
 asI .u8 v35 fun n36=>
 joinB (fun k37=>gate true (ibeq n36 (Int.ofNat 92))
 (k37 (iblt n33 (Int.ofNat l_0)) h30)
 (k37 false h30)) fun b39 h38=>
 joinB (fun k40=>gate true b39
 (natI n33 fun m43=>
 idxS l_0 c_0 m43 fun m44=>
 k40 (ibeq (Int.ofNat m44) (Int.ofNat 10)) h38)
 (k40 false h38)) fun b42 h41=>
 cnd b42
 (fI (wrap .i64 (iadd n33 (Int.ofNat 1))) fun n45=>
 J.a1 l_0 c_0 v_2 n45 h41)
 (ldn 3 (.ptr p28 0) h41 fun v46=>
 oK (withElem env 161 (fun e ei=>exBuildSlice 1 [(0,v46)] h41 e ei)) fun v47 h48=>
 oK (builtinA env .append [161,161] [v_2,v47] h48) fun v49 h50=>
 J.a1 l_0 c_0 v49 n33 h50))
noncomputable def z64:J64:=⟨fun _ _ _=>False,fun _ _ _ _ _=>False⟩
noncomputable def r64 (c:Caller Prop FT) (k:KV) (m:Nat):J64:=Nat.rec z64 (fun _ J=>⟨s64_0 c k J,s64_1 c k J⟩) m
noncomputable def f64 (J:J64):Jump:=fun L f h=>match L with
  |0=>asS (f 0) fun l_0 c_0=>J.a0 l_0 c_0 h
  |1=>asS (f 0) fun l_0 c_0=>asI .i64 (f 3) fun n_3=>J.a1 l_0 c_0 (f 2) n_3 h
  |_=>False
noncomputable def u64:Cuts:=[(.root,0),((.lab (.r .root) 0),1)]
noncomputable def d65:Code:=Option.rec .skip (fun c=>c) Go.Proofs.Tryz.f65.body
noncomputable def q65:Plans:=[]
structure J65 where
  a0:AV→Int→H→Prop
noncomputable def s65_0 (c:Caller Prop FT) (k:KV) (_J:J65) (v_0:AV) (n_1:Int) (h:H):Prop:=
 c (.func 87) [v_0] h fun _ h2=>
 oK (exNil v_0 h2) fun v3 h4=>
 fAddr 1 v3 fun v5=>
 ld1 v5 h4 fun v6=>
 oK (withElem env 79 (fun e ei=>exBuildSlice 1 [(0,(.int .u8 n_1))] h4 e ei)) fun v7 h8=>
 oK (builtinA env .append [79,79] [v6,v7] h8) fun v9 h10=>
 oK (exNil v_0 h10) fun v11 h12=>
 fAddr 1 v11 fun v13=>
 st1 v13 v9 h12 fun h14=>
 k .nili h14
noncomputable def z65:J65:=⟨fun _ _ _=>False⟩
noncomputable def r65 (c:Caller Prop FT) (k:KV) (m:Nat):J65:=Nat.rec z65 (fun _ J=>⟨s65_0 c k J⟩) m
noncomputable def f65 (J:J65):Jump:=fun L f h=>match L with
  |0=>asI .u8 (f 1) fun n_1=>J.a0 (f 0) n_1 h
  |_=>False
noncomputable def u65:Cuts:=[(.root,0)]
noncomputable def d66:Code:=Option.rec .skip (fun c=>c) Go.Proofs.Tryz.f66.body
noncomputable def q66:Plans:=[(1,[0,1,2,3,4,5,6,7,8,9,10,11])]
structure J66 where
  a0:AV→H→Prop
noncomputable def s66_0 (_c:Caller Prop FT) (k:KV) (_J:J66) (v_0:AV) (h:H):Prop:=
 oK (exNil v_0 h) fun v1 h2=>
 fAddr 1 v1 fun v3=>
 ld1 v3 h2 fun v4=>
 oK (builtinA env .unsafeSliceData [79] [v4] h2) fun v5 h6=>
 oK (exNil v_0 h6) fun v7 h8=>
 fAddr 1 v7 fun v9=>
 ld1 v9 h8 fun v10=>
 lenV v10 fun m11=>
 oK (builtinA env .unsafeString [204,3] [v5,(.int .i64 (Int.ofNat m11))] h8) fun v12 h13=>
 asS v12 fun l14 c15=>
 k (.str l14 c15) h13
noncomputable def z66:J66:=⟨fun _ _=>False⟩
noncomputable def r66 (c:Caller Prop FT) (k:KV) (m:Nat):J66:=Nat.rec z66 (fun _ J=>⟨s66_0 c k J⟩) m
noncomputable def f66 (J:J66):Jump:=fun L f h=>match L with
  |0=>J.a0 (f 0) h
  |_=>False
noncomputable def u66:Cuts:=[(.root,0)]
noncomputable def d67:Code:=Option.rec .skip (fun c=>c) Go.Proofs.Tryz.f67.body
noncomputable def q67:Plans:=[]
structure J67 where
  a0:AV→AV→H→Prop
noncomputable def s67_0 (c:Caller Prop FT) (k:KV) (_J:J67) (v_0:AV) (v_1:AV) (h:H):Prop:=
 c (.func 41) [v_0] h fun v1 h2=>
 asI .i64 v1 fun n3=>
 cnd (ibeq n3 (Int.ofNat 0))
 (k (.tuple []) h2)
 (oK (exNil v_0 h2) fun v4 h5=>
 fAddr 1 v4 fun v6=>
 ld1 v6 h5 fun v7=>
 oV (binA env .eql 88 v7 .nilp) fun v8=>
 asB v8 fun b9=>
 cnd b9
 (oK (exNil v_0 h5) fun v10 h11=>
 fAddr 0 v10 fun v12=>
 ld1 v12 h11 fun v13=>
 asS v13 fun l14 c15=>
 callV (CP env) c v_1 [(.str l14 c15)] h11 fun _ h17=>
 k (.tuple []) h17)
 (oK (exNil v_0 h5) fun v18 h19=>
 fAddr 1 v18 fun v20=>
 ld1 v20 h19 fun v21=>
 c (.func 67) [v21,v_1] h19 fun _ h23=>
 oK (exNil v_0 h23) fun v24 h25=>
 fAddr 2 v24 fun v26=>
 ld1 v26 h25 fun v27=>
 c (.func 67) [v27,v_1] h25 fun _ h29=>
 k (.tuple []) h29))
noncomputable def z67:J67:=⟨fun _ _ _=>False⟩
noncomputable def r67 (c:Caller Prop FT) (k:KV) (m:Nat):J67:=Nat.rec z67 (fun _ J=>⟨s67_0 c k J⟩) m
noncomputable def f67 (J:J67):Jump:=fun L f h=>match L with
  |0=>J.a0 (f 0) (f 1) h
  |_=>False
noncomputable def u67:Cuts:=[(.root,0)]
noncomputable def d68:Code:=Option.rec .skip (fun c=>c) Go.Proofs.Tryz.f68.body
noncomputable def q68:Plans:=[]
structure J68 where
  a0:Nat→Nat→AV→H→Prop
noncomputable def s68_0 (c:Caller Prop FT) (k:KV) (_J:J68) (l_0:Nat) (c_0:Nat) (v_1:AV) (h:H):Prop:=
 c (.func 69) [v_1,(.str l_0 c_0)] h fun _ h2=>
 k (.tuple []) h2
noncomputable def z68:J68:=⟨fun _ _ _ _=>False⟩
noncomputable def r68 (c:Caller Prop FT) (k:KV) (m:Nat):J68:=Nat.rec z68 (fun _ J=>⟨s68_0 c k J⟩) m
noncomputable def f68 (J:J68):Jump:=fun L f h=>match L with
  |0=>asS (f 0) fun l_0 c_0=>J.a0 l_0 c_0 (f 1) h
  |_=>False
noncomputable def u68:Cuts:=[(.root,0)]
noncomputable def d69:Code:=Option.rec .skip (fun c=>c) Go.Proofs.Tryz.f69.body
noncomputable def q69:Plans:=[]
structure J69 where
  a0:AV→Nat→Nat→H→Prop
noncomputable def s69_0 (c:Caller Prop FT) (k:KV) (_J:J69) (v_0:AV) (l_1:Nat) (c_1:Nat) (h:H):Prop:=
 c (.func 87) [v_0] h fun _ h2=>
 oK (exNil v_0 h2) fun v3 h4=>
 fAddr 1 v3 fun v5=>
 ld1 v5 h4 fun v6=>
 oK (builtinA env .append [79,9] [v6,(.str l_1 c_1)] h4) fun v7 h8=>
 oK (exNil v_0 h8) fun v9 h10=>
 fAddr 1 v9 fun v11=>
 st1 v11 v7 h10 fun h12=>
 k (.tuple [(.int .i64 (Int.ofNat l_1)),.nili]) h12
noncomputable def z69:J69:=⟨fun _ _ _ _=>False⟩
noncomputable def r69 (c:Caller Prop FT) (k:KV) (m:Nat):J69:=Nat.rec z69 (fun _ J=>⟨s69_0 c k J⟩) m
noncomputable def f69 (J:J69):Jump:=fun L f h=>match L with
  |0=>asS (f 1) fun l_1 c_1=>J.a0 (f 0) l_1 c_1 h
  |_=>False
noncomputable def u69:Cuts:=[(.root,0)]
noncomputable def d70:Code:=Option.rec .skip (fun c=>c) Go.Proofs.Tryz.f70.body
noncomputable def q70:Plans:=[]
noncomputable def u70:Cuts:=[(.root,0)]
noncomputable def d71:Code:=Option.rec .skip (fun c=>c) Go.Proofs.Tryz.f71.body
noncomputable def q71:Plans:=[(16,[0,1,2,3,4,5,6,7,8,9,10,11,12,13,14,15,16,17,18,19,20,21,22,23,24,25,26,27,28,29,30,31,32,33,34,35,36,37,38,39,40,41,42,43,44,45,46,47,48,49])]
noncomputable def u71:Cuts:=[(.root,0),((.l (.r (.r .root))),1),((.l (.l (.r (.r (.r (.r (.l (.r (.l (.l (.r (.r .root)))))))))))),2),((.r (.r (.l (.l (.l (.r (.r (.r (.r (.l (.r (.l (.l (.r (.r .root))))))))))))))),3)]
noncomputable def d72:Code:=Option.rec .skip (fun c=>c) Go.Proofs.Tryz.f72.body
noncomputable def q72:Plans:=[(1,[0,1,2,3,4,5,6,7,8,9,10,11,12,13,14])]
noncomputable def u72:Cuts:=[(.root,0)]
noncomputable def d73:Code:=Option.rec .skip (fun c=>c) Go.Proofs.Tryz.f73.body
noncomputable def q73:Plans:=[]
noncomputable def u73:Cuts:=[(.root,0)]
noncomputable def d74:Code:=Option.rec .skip (fun c=>c) Go.Proofs.Tryz.f74.body
noncomputable def q74:Plans:=[]
noncomputable def u74:Cuts:=[(.root,0)]
noncomputable def d75:Code:=Option.rec .skip (fun c=>c) Go.Proofs.Tryz.f75.body
noncomputable def q75:Plans:=[]
noncomputable def u75:Cuts:=[(.root,0),((.l (.r .root)),1)]
noncomputable def d76:Code:=Option.rec .skip (fun c=>c) Go.Proofs.Tryz.f76.body
noncomputable def q76:Plans:=[]
noncomputable def u76:Cuts:=[(.root,0)]
noncomputable def d77:Code:=Option.rec .skip (fun c=>c) Go.Proofs.Tryz.f77.body
noncomputable def q77:Plans:=[]
noncomputable def u77:Cuts:=[(.root,0),((.l (.r (.r .root))),1)]
noncomputable def d78:Code:=Option.rec .skip (fun c=>c) Go.Proofs.Tryz.f78.body
noncomputable def q78:Plans:=[]
noncomputable def u78:Cuts:=[(.root,0),((.l (.r .root)),1)]
noncomputable def d79:Code:=Option.rec .skip (fun c=>c) Go.Proofs.Tryz.f79.body
noncomputable def q79:Plans:=[(1,[0,1,2,3,4,5,6,7,8,9,10,11,12,13,14])]
noncomputable def u79:Cuts:=[(.root,0)]
noncomputable def d80:Code:=Option.rec .skip (fun c=>c) Go.Proofs.Tryz.f80.body
noncomputable def q80:Plans:=[(7,[0,1,2,3,4,5,6,7,8,9,10,11,12]),(8,[0,1,2,3,4,5,6,7,8,9,10,11]),(9,[0,1,2,3,4,5,6,7,8,9,10,11])]
noncomputable def u80:Cuts:=[(.root,0),((.r (.r (.r (.r .root)))),1)]
noncomputable def d81:Code:=Option.rec .skip (fun c=>c) Go.Proofs.Tryz.f81.body
noncomputable def q81:Plans:=[]
structure J81 where
  a0:Nat→Nat→Nat→Nat→Int→H→Prop
noncomputable def s81_0 (_c:Caller Prop FT) (k:KV) (_J:J81) (l_0:Nat) (c_0:Nat) (l_1:Nat) (c_1:Nat) (n_2:Int) (h:H):Prop:=
 Hp.newK h (rowOf 9 [(.str l_0 c_0)]) fun p1 h2=>
 Hp.newK h2 (rowOf 9 [(.str l_1 c_1)]) fun p3 h4=>
 Hp.newK h4 (rowOf 3 [(.int .i64 n_2)]) fun p5 h6=>
 k (.func (.func 105) [] [(.ptr p3 0),(.ptr p1 0),(.ptr p5 0)]) h6
noncomputable def z81:J81:=⟨fun _ _ _ _ _ _=>False⟩
noncomputable def r81 (c:Caller Prop FT) (k:KV) (m:Nat):J81:=Nat.rec z81 (fun _ J=>⟨s81_0 c k J⟩) m
noncomputable def f81 (J:J81):Jump:=fun L f h=>match L with
  |0=>asS (f 0) fun l_0 c_0=>asS (f 1) fun l_1 c_1=>asI .i64 (f 2) fun n_2=>J.a0 l_0 c_0 l_1 c_1 n_2 h
  |_=>False
noncomputable def u81:Cuts:=[(.root,0)]
noncomputable def d82:Code:=Option.rec .skip (fun c=>c) Go.Proofs.Tryz.f82.body
noncomputable def q82:Plans:=[]
structure J82 where
  a0:Int→H→Prop
noncomputable def s82_0 (_c:Caller Prop FT) (k:KV) (_J:J82) (n_0:Int) (h:H):Prop:=
 joinB (fun k1=>gate true (ible (Int.ofNat 97) n_0)
 (k1 (ible n_0 (Int.ofNat 122)) h)
 (k1 false h)) fun b3 h2=>
 joinB (fun k4=>gate false b3
 (joinB (fun k7=>gate true (ible (Int.ofNat 65) n_0)
 (k7 (ible n_0 (Int.ofNat 90)) h2)
 (k7 false h2)) fun b9 h8=>
 k4 b9 h8)
 (k4 true h2)) fun b6 h5=>
 joinB (fun k10=>gate false b6
 (joinB (fun k13=>gate true (ible (Int.ofNat 48) n_0)
 (k13 (ible n_0 (Int.ofNat 57)) h5)
 (k13 false h5)) fun b15 h14=>
 k10 b15 h14)
 (k10 true h5)) fun b12 h11=>
 joinB (fun k16=>gate false b12
 (k16 (ibeq n_0 (Int.ofNat 46)) h11)
 (k16 true h11)) fun b18 h17=>
 joinB (fun k19=>gate false b18
 (k19 (ibeq n_0 (Int.ofNat 45)) h17)
 (k19 true h17)) fun b21 h20=>
 joinB (fun k22=>gate false b21
 (k22 (ibeq n_0 (Int.ofNat 95)) h20)
 (k22 true h20)) fun b24 h23=>
 k (.bool b24) h23
noncomputable def z82:J82:=⟨fun _ _=>False⟩
noncomputable def r82 (c:Caller Prop FT) (k:KV) (m:Nat):J82:=Nat.rec z82 (fun _ J=>⟨s82_0 c k J⟩) m
noncomputable def f82 (J:J82):Jump:=fun L f h=>match L with
  |0=>asI .u8 (f 0) fun n_0=>J.a0 n_0 h
  |_=>False
noncomputable def u82:Cuts:=[(.root,0)]
noncomputable def d83:Code:=Option.rec .skip (fun c=>c) Go.Proofs.Tryz.f83.body
noncomputable def q83:Plans:=[]
structure J83 where
  a0:Nat→Nat→H→Prop
noncomputable def s83_0 (_c:Caller Prop FT) (k:KV) (_J:J83) (l_0:Nat) (c_0:Nat) (h:H):Prop:=
 cnd (strEq l_0 c_0 0 0)
 (k .nilp h)
 (oK (exBuild env (env.ty 157) [(0,(.str l_0 c_0)),(3,(.int .i64 (Int.ofNat l_0))),(4,(.int .i64 (Int.ofNat 1)))] h) fun v1 h2=>
 asG v1 fun g3=>
 chk (Nat.ble 1 (len g3))<|
 Hp.newK h2 (rowOf 157 g3) fun p4 h5=>
 k (.ptr p4 0) h5)
noncomputable def z83:J83:=⟨fun _ _ _=>False⟩
noncomputable def r83 (c:Caller Prop FT) (k:KV) (m:Nat):J83:=Nat.rec z83 (fun _ J=>⟨s83_0 c k J⟩) m
noncomputable def f83 (J:J83):Jump:=fun L f h=>match L with
  |0=>asS (f 0) fun l_0 c_0=>J.a0 l_0 c_0 h
  |_=>False
noncomputable def u83:Cuts:=[(.root,0)]
noncomputable def d84:Code:=Option.rec .skip (fun c=>c) Go.Proofs.Tryz.f84.body
noncomputable def q84:Plans:=[]
structure J84 where
  a0:AV→AV→H→Prop
noncomputable def s84_0 (c:Caller Prop FT) (k:KV) (_J:J84) (v_0:AV) (v_1:AV) (h:H):Prop:=
 c (.func 41) [v_0] h fun v1 h2=>
 asI .i64 v1 fun n3=>
 c (.func 41) [v_1] h2 fun v4 h5=>
 asI .i64 v4 fun n6=>
 fI (wrap .i64 (iadd n3 n6)) fun n7=>
 c (.func 108) [v_0] h5 fun v8 h9=>
 asI .i64 v8 fun n10=>
 c (.func 108) [v_1] h9 fun v11 h12=>
 asI .i64 v11 fun n13=>
 oK (builtinA env .max [3,3] [(.int .i64 n10),(.int .i64 n13)] h12) fun v14 h15=>
 asI .i64 v14 fun n16=>
 fI (wrap .i64 (iadd (Int.ofNat 1) n16)) fun n17=>
 oK (exBuild env (env.ty 157) [(1,v_0),(2,v_1),(3,(.int .i64 n7)),(4,(.int .i64 n17))] h15) fun v18 h19=>
 asG v18 fun g20=>
 chk (Nat.ble 1 (len g20))<|
 Hp.newK h19 (rowOf 157 g20) fun p21 h22=>
 k (.ptr p21 0) h22
noncomputable def z84:J84:=⟨fun _ _ _=>False⟩
noncomputable def r84 (c:Caller Prop FT) (k:KV) (m:Nat):J84:=Nat.rec z84 (fun _ J=>⟨s84_0 c k J⟩) m
noncomputable def f84 (J:J84):Jump:=fun L f h=>match L with
  |0=>J.a0 (f 0) (f 1) h
  |_=>False
noncomputable def u84:Cuts:=[(.root,0)]
noncomputable def d85:Code:=Option.rec .skip (fun c=>c) Go.Proofs.Tryz.f85.body
noncomputable def q85:Plans:=[]
structure J85 where
  a0:AV→Int→H→Prop
noncomputable def s85_0 (c:Caller Prop FT) (k:KV) (_J:J85) (v_0:AV) (n_1:Int) (h:H):Prop:=
 oK (exNil v_0 h) fun v1 h2=>
 fAddr 0 v1 fun v3=>
 c (.func 109) [v3,(.int .i64 n_1)] h2 fun v4 h5=>
 asI .i64 v4 fun n6=>
 k (.int .i64 n6) h5
noncomputable def z85:J85:=⟨fun _ _ _=>False⟩
noncomputable def r85 (c:Caller Prop FT) (k:KV) (m:Nat):J85:=Nat.rec z85 (fun _ J=>⟨s85_0 c k J⟩) m
noncomputable def f85 (J:J85):Jump:=fun L f h=>match L with
  |0=>asI .i64 (f 1) fun n_1=>J.a0 (f 0) n_1 h
  |_=>False
noncomputable def u85:Cuts:=[(.root,0)]
noncomputable def d86:Code:=Option.rec .skip (fun c=>c) Go.Proofs.Tryz.f86.body
noncomputable def q86:Plans:=[]
structure J86 where
  a0:Nat→Nat→Int→H→Prop
  a1:Nat→Nat→Int→AV→H→Prop
noncomputable def s86_0 (c:Caller Prop FT) (k:KV) (J:J86) (l_0:Nat) (c_0:Nat) (n_1:Int) (h:H):Prop:=
 Hp.newK h ob163 fun p1 h2=>
 natI n_1 fun m3=>
 cutS l_0 c_0 m3 l_0 fun l4 c5=>
 c (.func 110) [(.str l4 c5),(.str 2 16191)] h2 fun v6 h7=>
 asB v6 fun b8=>
 joinB (fun k9=>gate true b8
 (fI (wrap .i64 (iadd n_1 (Int.ofNat 2))) fun n12=>
 k9 (iblt n12 (Int.ofNat l_0)) h7)
 (k9 false h7)) fun b11 h10=>
 cnd b11
 (fI (wrap .i64 (iadd n_1 (Int.ofNat 2))) fun n13=>
 natI n13 fun m14=>
 idxS l_0 c_0 m14 fun m15=>
 c (.func 111) [(.int .u8 (Int.ofNat m15))] h10 fun v16 h17=>
 ext 0 v16 fun v18=>
 asI .u8 v18 fun n19=>
 ext 1 v16 fun v20=>
 asB v20 fun b21=>
 cnd b21
 (fI (wrap .i64 (iadd n_1 (Int.ofNat 3))) fun n22=>
 oK (exBuild env (env.ty 163) [(0,(.int .u8 n19)),(1,(.int .i64 n_1)),(2,(.int .i64 n22))] h17) fun v23 h24=>
 stn 3 (.ptr p1 0) v23 h24 fun h25=>
 ldn 3 (.ptr p1 0) h25 fun v26=>
 k v26 h25)
 (J.a1 l_0 c_0 n_1 (.ptr p1 0) h17))
 (J.a1 l_0 c_0 n_1 (.ptr p1 0) h10)
noncomputable def s86_1 (_c:Caller Prop FT) (k:KV) (_J:J86) (l_0:Nat) (c_0:Nat) (n_1:Int) (v_4:AV) (h:H):Prop:=
 natI n_1 fun m27=>
 idxS l_0 c_0 m27 fun m28=>
 fI (wrap .i64 (iadd n_1 (Int.ofNat 1))) fun n29=>
 oK (exBuild env (env.ty 163) [(0,(.int .u8 (Int.ofNat m28))),(1,(.int .i64 n_1)),(2,(.int .i64 n29))] h) fun v30 h31=>
 stn 3 v_4 v30 h31 fun h32=>
 ldn 3 v_4 h32 fun v33=>
 k v33 h32
noncomputable def z86:J86:=⟨fun _ _ _ _=>False,fun _ _ _ _ _=>False⟩
noncomputable def r86 (c:Caller Prop FT) (k:KV) (m:Nat):J86:=Nat.rec z86 (fun _ J=>⟨s86_0 c k J,s86_1 c k J⟩) m
noncomputable def f86 (J:J86):Jump:=fun L f h=>match L with
  |0=>asS (f 0) fun l_0 c_0=>asI .i64 (f 1) fun n_1=>J.a0 l_0 c_0 n_1 h
  |1=>asS (f 0) fun l_0 c_0=>asI .i64 (f 1) fun n_1=>J.a1 l_0 c_0 n_1 (f 4) h
  |_=>False
noncomputable def u86:Cuts:=[(.root,0),((.r (.r .root)),1)]
noncomputable def d87:Code:=Option.rec .skip (fun c=>c) Go.Proofs.Tryz.f87.body
noncomputable def q87:Plans:=[]
structure J87 where
  a0:AV→H→Prop
noncomputable def s87_0 (c:Caller Prop FT) (k:KV) (_J:J87) (v_0:AV) (h:H):Prop:=
 oK (exNil v_0 h) fun v1 h2=>
 fAddr 0 v1 fun v3=>
 ld1 v3 h2 fun v4=>
 oV (binA env .eql 158 v4 .nilp) fun v5=>
 asB v5 fun b6=>
 cnd b6
 (oK (convA env h2 158 238 v_0) fun v7 h8=>
 c (.func 112) [v7] h8 fun v9 h10=>
 oK (convA env h10 238 158 v9) fun v11 h12=>
 oK (exNil v_0 h12) fun v13 h14=>
 fAddr 0 v13 fun v15=>
 st1 v15 v11 h14 fun h16=>
 k (.tuple []) h16)
 (oK (exNil v_0 h2) fun v17 h18=>
 fAddr 0 v17 fun v19=>
 ld1 v19 h18 fun v20=>
 oV (binA env .neq 158 v20 v_0) fun v21=>
 asB v21 fun b22=>
 cnd b22
 (False)
 (k (.tuple []) h18))
noncomputable def z87:J87:=⟨fun _ _=>False⟩
noncomputable def r87 (c:Caller Prop FT) (k:KV) (m:Nat):J87:=Nat.rec z87 (fun _ J=>⟨s87_0 c k J⟩) m
noncomputable def f87 (J:J87):Jump:=fun L f h=>match L with
  |0=>J.a0 (f 0) h
  |_=>False
noncomputable def u87:Cuts:=[(.root,0)]
noncomputable def d89:Code:=Option.rec .skip (fun c=>c) Go.Proofs.Tryz.f89.body
noncomputable def q89:Plans:=[(7,[0,1,2,3,4,5,6,7,8])]
noncomputable def u89:Cuts:=[(.root,0)]
noncomputable def d90:Code:=Option.rec .skip (fun c=>c) Go.Proofs.Tryz.f90.body
noncomputable def q90:Plans:=[(3,[0,1,2,3,4,5,6,7,8,9,10,11,12,13,14,15]),(10,[0,1,2,3,4,5,6,7,8])]
noncomputable def u90:Cuts:=[(.root,0),((.r (.r (.l (.r (.l (.r (.r (.r (.r .root))))))))),1),((.r (.r (.r (.l (.r (.r (.r (.r .root)))))))),2),((.r (.l (.r (.r (.r (.r .root)))))),3),((.r (.r (.r .root))),4)]
noncomputable def d91:Code:=Option.rec .skip (fun c=>c) Go.Proofs.Tryz.f91.body
noncomputable def q91:Plans:=[(1,[0,1,2,3,4,5,6,7,8,9,10,11,12,13,14,15,16,17,18,19,20,21,22,23,24])]
noncomputable def u91:Cuts:=[(.root,0)]
noncomputable def d92:Code:=Option.rec .skip (fun c=>c) Go.Proofs.Tryz.f92.body
noncomputable def q92:Plans:=[(1,[0,1,2,3,4,5,6,7,8,9,10,11,12])]
noncomputable def u92:Cuts:=[(.root,0),((.l (.r (.l (.r (.r (.r .root)))))),1)]
noncomputable def d93:Code:=Option.rec .skip (fun c=>c) Go.Proofs.Tryz.f93.body
noncomputable def q93:Plans:=[(4294967294,[2]),(4294967295,[13])]
noncomputable def lp93_0:LpS:=lpOf q93 (codeAt d93 (.l (.r (.l (.r .root)))))
noncomputable def u93:Cuts:=[(.root,0)]
noncomputable def d94:Code:=Option.rec .skip (fun c=>c) Go.Proofs.Tryz.f94.body
noncomputable def q94:Plans:=[(17,[0,1,2,3,4,5,6,7,8,9,10,11,12,13,14])]
noncomputable def u94:Cuts:=[(.root,0),((.l (.r (.r .root))),1),((.r (.r (.r (.r (.r (.r (.r (.l (.l (.l (.r (.r .root)))))))))))),2),((.r (.r (.r (.r (.r (.r (.l (.l (.l (.r (.r .root))))))))))),3),((.r (.r (.r (.r (.l (.l (.l (.r (.r .root))))))))),4)]
noncomputable def d95:Code:=Option.rec .skip (fun c=>c) Go.Proofs.Tryz.f95.body
noncomputable def q95:Plans:=[]
noncomputable def u95:Cuts:=[(.root,0)]
noncomputable def d96:Code:=Option.rec .skip (fun c=>c) Go.Proofs.Tryz.f96.body
noncomputable def q96:Plans:=[(4,[0,1,2,3,4,5,6,7,8,9,10,11,12,13,14,15,16,17,18,19,20,21,22,23]),(5,[0,1,2,3,4,5,6,7,8,9,10,11]),(11,[0,1,2,3,4,5,6,7,8,9,10,11,12,13,14,15,16]),(16,[0,2,3,4,5,6,7,8,9,10,11,12,13,14,15,16,1,17,18,19])]
noncomputable def u96:Cuts:=[(.root,0),((.l (.r (.l (.r (.r (.r (.r (.r (.r (.r (.r (.l (.r .root))))))))))))),1),((.lab (.r .root) 1),2),((.l (.r (.l (.r (.r (.r (.r (.r (.lab (.r .root) 1))))))))),3),((.lab (.r .root) 0),4),((.r (.l (.r (.r (.r (.r (.r (.r (.l (.r .root)))))))))),5)]
noncomputable def d97:Code:=Option.rec .skip (fun c=>c) Go.Proofs.Tryz.f97.body
noncomputable def q97:Plans:=[]
noncomputable def u97:Cuts:=[(.root,0)]
noncomputable def d98:Code:=Option.rec .skip (fun c=>c) Go.Proofs.Tryz.f98.body
noncomputable def q98:Plans:=[(1,[0,1,2,3,4,5,6,7,8,9,10,11,12,13]),(2,[0,1,2,3,4,5,6,7,8,9,10])]
noncomputable def u98:Cuts:=[(.root,0)]
noncomputable def d99:Code:=Option.rec .skip (fun c=>c) Go.Proofs.Tryz.f99.body
noncomputable def q99:Plans:=[(4,[0,1,2,3,4,5,6,7,12,8,9,10,11,13,14,15])]
noncomputable def u99:Cuts:=[(.root,0),((.r (.r .root)),1)]
noncomputable def d100:Code:=Option.rec .skip (fun c=>c) Go.Proofs.Tryz.f100.body
noncomputable def q100:Plans:=[]
noncomputable def u100:Cuts:=[(.root,0)]
noncomputable def d101:Code:=Option.rec .skip (fun c=>c) Go.Proofs.Tryz.f101.body
noncomputable def q101:Plans:=[]
noncomputable def u101:Cuts:=[(.root,0)]
noncomputable def d102:Code:=Option.rec .skip (fun c=>c) Go.Proofs.Tryz.f102.body
noncomputable def q102:Plans:=[(3,[0,1,2,3,4,5,6,7]),(11,[0,1,2,3,4,5,6,7,8,9,10,11,12,13,14,15]),(12,[0,1,2,3,4,5,6,7,8,9,10,11,12,13,14,15,16,17,18,19]),(14,[0,1,2,3,4,5,6,7]),(30,[0,1,2,3,4,5,6,7,9,10,11,12,13,8,14,15]),(31,[0,1,2,3,4,5,6,7,9,8,10])]
noncomputable def u102:Cuts:=[(.root,0),((.l (.r (.l (.r (.r (.r (.r .root))))))),1),((.l (.r (.l (.r (.l (.r (.l (.r (.r (.r (.r (.r (.r (.r .root)))))))))))))),2),((.l (.r (.l (.r (.l (.r (.r (.r (.r (.r (.r (.r (.r (.r .root)))))))))))))),3),((.r (.r (.r (.r (.r (.r (.r (.r (.r (.r (.r .root))))))))))),4),((.r (.r (.r (.r (.r (.r (.r (.r (.r (.r .root)))))))))),5),((.r (.l (.r (.l (.r (.l (.r (.r (.r (.r (.r (.r (.r .root))))))))))))),6),((.r (.l (.r (.l (.r (.r (.r (.r (.r (.r (.r (.r (.r .root))))))))))))),7)]
noncomputable def d103:Code:=Option.rec .skip (fun c=>c) Go.Proofs.Tryz.f103.body
noncomputable def q103:Plans:=[(1,[0,1,2,3,4,5,6,7,8,9,10,11,12,13,14,15,16,17,18,19,20,21,22,23]),(2,[0,1,2,3,4,5,8,9,6,7,10,11]),(3,[0,1,3,5,6,7,8,9,10,11,12,13,14,15,16,17,18,2,4,19,20,21,22,23,24]),(4,[0,1,2,3,4,5,6,7,8,9,10,11,12,13,14,15]),(5,[0,1,2,3,4,5,6,7,8,9]),(12,[0,1,2,3,4,5,6,7,8,9,10,11,12,13]),(14,[0,1,2,3,4,5,6,7,8,9,10,11,12,13]),(15,[0,1,2,3,4,5,6,7,8,9,10]),(4294967294,[6,9,10,11]),(4294967295,[167])]
noncomputable def lp103_0:LpS:=lpOf q103 (codeAt d103 (.l (.r (.r (.r (.r (.r (.r (.r (.r .root))))))))))
noncomputable def u103:Cuts:=[(.root,0),((.r (.r (.r (.r .root)))),1)]
noncomputable def d104:Code:=Option.rec .skip (fun c=>c) Go.Proofs.Tryz.f104.body
noncomputable def q104:Plans:=[]
noncomputable def u104:Cuts:=[(.root,0)]
noncomputable def d105:Code:=Option.rec .skip (fun c=>c) Go.Proofs.Tryz.f105.body
noncomputable def q105:Plans:=[]
structure J105 where
  a0:AV→AV→AV→AV→H→Prop
  a1:AV→AV→H→Prop
  a2:AV→AV→AV→AV→H→Prop
noncomputable def s105_0 (_c:Caller Prop FT) (_k:KV) (J:J105) (v_0:AV) (v_1:AV) (v_2:AV) (v_3:AV) (h:H):Prop:=
 ld1 v_1 h fun v1=>
 asS v1 fun l2 _=>
 cnd (ibeq (Int.ofNat l2) (Int.ofNat 0))
 (J.a1 v_0 v_2 h)
 (J.a2 v_0 v_1 v_2 v_3 h)
noncomputable def s105_1 (c:Caller Prop FT) (k:KV) (J:J105) (v_0:AV) (v_2:AV) (h:H):Prop:=
 ld1 v_2 h fun v4=>
 asS v4 fun l5 _=>
 cnd (iblt (Int.ofNat 0) (Int.ofNat l5))
 (ld1 v_2 h fun v7=>
 asS v7 fun l8 c9=>
 c (.func 106) [(.str l8 c9)] h fun v10 h11=>
 ext 0 v10 fun v12=>
 asI .i32 v12 fun _=>
 ext 1 v10 fun v14=>
 asI .i64 v14 fun n15=>
 ld1 v_2 h11 fun v16=>
 asS v16 fun l17 c18=>
 natI n15 fun m19=>
 cutS l17 c18 0 m19 fun l20 c21=>
 callV (CP env) c v_0 [(.str l20 c21)] h11 fun v22 h23=>
 asB v22 fun b24=>
 cnd (bnot b24)
 (k (.tuple []) h23)
 (ld1 v_2 h23 fun v25=>
 asS v25 fun l26 c27=>
 natI n15 fun m28=>
 cutS l26 c27 m28 l26 fun l29 c30=>
 st1 v_2 (.str l29 c30) h23 fun h31=>
 J.a1 v_0 v_2 h31))
 (k (.tuple []) h)
noncomputable def s105_2 (c:Caller Prop FT) (k:KV) (J:J105) (v_0:AV) (v_1:AV) (v_2:AV) (v_3:AV) (h:H):Prop:=
 ld1 v_2 h fun v32=>
 asS v32 fun l33 c34=>
 ld1 v_1 h fun v35=>
 asS v35 fun l36 c37=>
 c (.func 107) [(.str l33 c34),(.str l36 c37)] h fun v38 h39=>
 asI .i64 v38 fun n40=>
 cnd (iblt n40 (Int.ofNat 0))
 (ld1 v_2 h39 fun v41=>
 asS v41 fun l42 c43=>
 callV (CP env) c v_0 [(.str l42 c43)] h39 fun v44 h45=>
 asB v44 fun _=>
 k (.tuple []) h45)
 (ld1 v_2 h39 fun v47=>
 asS v47 fun l48 c49=>
 ld1 v_3 h39 fun v50=>
 asI .i64 v50 fun n51=>
 fI (wrap .i64 (iadd n40 n51)) fun n52=>
 natI n52 fun m53=>
 cutS l48 c49 0 m53 fun l54 c55=>
 callV (CP env) c v_0 [(.str l54 c55)] h39 fun v56 h57=>
 asB v56 fun b58=>
 cnd (bnot b58)
 (k (.tuple []) h57)
 (ld1 v_2 h57 fun v59=>
 asS v59 fun l60 c61=>
 ld1 v_1 h57 fun v62=>
 asS v62 fun l63 _=>
 fI (wrap .i64 (iadd n40 (Int.ofNat l63))) fun n65=>
 natI n65 fun m66=>
 cutS l60 c61 m66 l60 fun l67 c68=>
 st1 v_2 (.str l67 c68) h57 fun h69=>
 J.a2 v_0 v_1 v_2 v_3 h69))
noncomputable def z105:J105:=⟨fun _ _ _ _ _=>False,fun _ _ _=>False,fun _ _ _ _ _=>False⟩
noncomputable def r105 (c:Caller Prop FT) (k:KV) (m:Nat):J105:=Nat.rec z105 (fun _ J=>⟨s105_0 c k J,s105_1 c k J,s105_2 c k J⟩) m
noncomputable def f105 (J:J105):Jump:=fun L f h=>match L with
  |0=>J.a0 (f 0) (f 1) (f 2) (f 3) h
  |1=>J.a1 (f 0) (f 2) h
  |2=>J.a2 (f 0) (f 1) (f 2) (f 3) h
  |_=>False
noncomputable def u105:Cuts:=[(.root,0),((.l (.l (.l (.r (.l .root))))),1),((.l (.l (.r .root))),2)]
noncomputable def d106:Code:=Option.rec .skip (fun c=>c) Go.Proofs.Tryz.f106.body
noncomputable def q106:Plans:=[]
noncomputable def u106:Cuts:=[(.root,0)]
noncomputable def d107:Code:=Option.rec .skip (fun c=>c) Go.Proofs.Tryz.f107.body
noncomputable def q107:Plans:=[]
structure J107 where
  a0:Nat→Nat→Nat→Nat→H→Prop
noncomputable def s107_0 (c:Caller Prop FT) (k:KV) (_J:J107) (l_0:Nat) (c_0:Nat) (l_1:Nat) (c_1:Nat) (h:H):Prop:=
 c (.func 153) [(.str l_0 c_0),(.str l_1 c_1)] h fun v1 h2=>
 asI .i64 v1 fun n3=>
 k (.int .i64 n3) h2
noncomputable def z107:J107:=⟨fun _ _ _ _ _=>False⟩
noncomputable def r107 (c:Caller Prop FT) (k:KV) (m:Nat):J107:=Nat.rec z107 (fun _ J=>⟨s107_0 c k J⟩) m
noncomputable def f107 (J:J107):Jump:=fun L f h=>match L with
  |0=>asS (f 0) fun l_0 c_0=>asS (f 1) fun l_1 c_1=>J.a0 l_0 c_0 l_1 c_1 h
  |_=>False
noncomputable def u107:Cuts:=[(.root,0)]
noncomputable def d108:Code:=Option.rec .skip (fun c=>c) Go.Proofs.Tryz.f108.body
noncomputable def q108:Plans:=[]
structure J108 where
  a0:AV→H→Prop
noncomputable def s108_0 (_c:Caller Prop FT) (k:KV) (_J:J108) (v_0:AV) (h:H):Prop:=
 oV (binA env .eql 88 v_0 .nilp) fun v1=>
 asB v1 fun b2=>
 cnd b2
 (k (.int .i64 (Int.ofNat 0)) h)
 (oK (exNil v_0 h) fun v3 h4=>
 fAddr 4 v3 fun v5=>
 ld1 v5 h4 fun v6=>
 asI .i64 v6 fun n7=>
 k (.int .i64 n7) h4)
noncomputable def z108:J108:=⟨fun _ _=>False⟩
noncomputable def r108 (c:Caller Prop FT) (k:KV) (m:Nat):J108:=Nat.rec z108 (fun _ J=>⟨s108_0 c k J⟩) m
noncomputable def f108 (J:J108):Jump:=fun L f h=>match L with
  |0=>J.a0 (f 0) h
  |_=>False
noncomputable def u108:Cuts:=[(.root,0)]
noncomputable def d110:Code:=Option.rec .skip (fun c=>c) Go.Proofs.Tryz.f110.body
noncomputable def q110:Plans:=[]
structure J110 where
  a0:Nat→Nat→Nat→Nat→H→Prop
noncomputable def s110_0 (c:Caller Prop FT) (k:KV) (_J:J110) (l_0:Nat) (c_0:Nat) (l_1:Nat) (c_1:Nat) (h:H):Prop:=
 c (.func 154) [(.str l_0 c_0),(.str l_1 c_1)] h fun v1 h2=>
 asB v1 fun b3=>
 k (.bool b3) h2
noncomputable def z110:J110:=⟨fun _ _ _ _ _=>False⟩
noncomputable def r110 (c:Caller Prop FT) (k:KV) (m:Nat):J110:=Nat.rec z110 (fun _ J=>⟨s110_0 c k J⟩) m
noncomputable def f110 (J:J110):Jump:=fun L f h=>match L with
  |0=>asS (f 0) fun l_0 c_0=>asS (f 1) fun l_1 c_1=>J.a0 l_0 c_0 l_1 c_1 h
  |_=>False
noncomputable def u110:Cuts:=[(.root,0)]
noncomputable def d111:Code:=Option.rec .skip (fun c=>c) Go.Proofs.Tryz.f111.body
noncomputable def q111:Plans:=[]
structure J111 where
  a0:Int→H→Prop
noncomputable def s111_0 (c:Caller Prop FT) (k:KV) (_J:J111) (n_0:Int) (h:H):Prop:=
 c (.func 155) [(.str 9 834587979106535026493),(.int .u8 n_0)] h fun v1 h2=>
 asI .i64 v1 fun n3=>
 cnd (iblt n3 (Int.ofNat 0))
 (k (.tuple [(.int .u8 (Int.ofNat 0)),(.bool false)]) h2)
 (natI n3 fun m4=>
 idxS 9 2333331710704686619683 m4 fun m5=>
 k (.tuple [(.int .u8 (Int.ofNat m5)),(.bool true)]) h2)
noncomputable def z111:J111:=⟨fun _ _=>False⟩
noncomputable def r111 (c:Caller Prop FT) (k:KV) (m:Nat):J111:=Nat.rec z111 (fun _ J=>⟨s111_0 c k J⟩) m
noncomputable def f111 (J:J111):Jump:=fun L f h=>match L with
  |0=>asI .u8 (f 0) fun n_0=>J.a0 n_0 h
  |_=>False
noncomputable def u111:Cuts:=[(.root,0)]
noncomputable def d113:Code:=Option.rec .skip (fun c=>c) Go.Proofs.Tryz.f113.body
noncomputable def q113:Plans:=[]
noncomputable def u113:Cuts:=[(.root,0)]
noncomputable def d114:Code:=Option.rec .skip (fun c=>c) Go.Proofs.Tryz.f114.body
noncomputable def q114:Plans:=[]
noncomputable def u114:Cuts:=[(.root,0)]
noncomputable def d115:Code:=Option.rec .skip (fun c=>c) Go.Proofs.Tryz.f115.body
noncomputable def q115:Plans:=[(2,[0,1,2,3,4,5,6,7,8,9,10,11,12,13,14,15,16,17,18,19,20,21,22,23,24,25,30,26,27,28,29,31,32]),(3,[0,1,2,3,4,5]),(6,[0,1,2,3,4,5,6,7,8]),(8,[0,1,2,3,4,5,6,7,8,9,10,11,12,13,14,15,16]),(10,[0,1,2,3,4,5,6,7,8,9,10,11,12,13,16,17,14,15,18,19])]
noncomputable def u115:Cuts:=[(.root,0),((.r (.l (.r (.r .root)))),1)]
noncomputable def d116:Code:=Option.rec .skip (fun c=>c) Go.Proofs.Tryz.f116.body
noncomputable def q116:Plans:=[(2,[0,1,2,3,4,5,6,7,8])]
noncomputable def u116:Cuts:=[(.root,0),((.r (.r (.r (.r (.r (.r (.r .root))))))),1),((.r (.r (.r (.r (.r (.r .root)))))),2),((.r (.r (.r (.r .root)))),3)]
noncomputable def d117:Code:=Option.rec .skip (fun c=>c) Go.Proofs.Tryz.f117.body
noncomputable def q117:Plans:=[(10,[0,1,2,3,4,5,6,7,8]),(13,[0,1,2,3,4,5,6,7,8]),(14,[0,1,2,3,4,5,6,7,8,9,10,11,12,13,14,15,17,18,19,20,16,21,22,23,24,25,26,27]),(16,[0,1,2,3,4,5,6,7,8])]
noncomputable def u117:Cuts:=[(.root,0)]
noncomputable def d118:Code:=Option.rec .skip (fun c=>c) Go.Proofs.Tryz.f118.body
noncomputable def q118:Plans:=[(4,[0,1,2,3,4,5,6,7,8,9,10,11,12,13,14]),(6,[0,1,2,3,4,5,6,7,8,9,10,11,12,13,14,15,16,17])]
noncomputable def u118:Cuts:=[(.root,0),((.l (.r .root)),1),((.l (.r (.l (.l (.r (.l (.l (.r .root)))))))),2)]
noncomputable def d120:Code:=Option.rec .skip (fun c=>c) Go.Proofs.Tryz.f120.body
noncomputable def q120:Plans:=[(10,[0,1,2,3,4,5,6,7,8,9,10,11,12,13,14,15,16,17,18,19])]
noncomputable def u120:Cuts:=[(.root,0),((.l (.r (.r (.r (.l (.r (.r .root))))))),1),((.r (.r (.l (.l (.r (.l (.l (.r (.r (.r (.l (.r (.r .root))))))))))))),2)]
noncomputable def d121:Code:=Option.rec .skip (fun c=>c) Go.Proofs.Tryz.f121.body
noncomputable def q121:Plans:=[]
noncomputable def u121:Cuts:=[(.root,0),((.r (.l (.r (.l (.r (.r (.r (.r (.r (.r .root)))))))))),1),((.r (.r (.r (.r (.r (.r (.r .root))))))),2)]
noncomputable def d122:Code:=Option.rec .skip (fun c=>c) Go.Proofs.Tryz.f122.body
noncomputable def q122:Plans:=[(3,[0,1,2,3,4,5,6,7,8,9,10,11,12,13,14,15])]
noncomputable def u122:Cuts:=[(.root,0),((.l (.r (.r .root))),1)]
noncomputable def d123:Code:=Option.rec .skip (fun c=>c) Go.Proofs.Tryz.f123.body
noncomputable def q123:Plans:=[(5,[0,1,2,3,4,5,6,7,8,9,10,11,12,13,14,15]),(11,[0,1,2,3,4,5,6,7,8,9,10,11,12,13,14,15,16,17]),(16,[0,1,2,3,4,5,6,7,8,9,10]),(17,[0,1,2,3,4,5,6,7,8,9,10,11,12,13,14,15,16,17]),(22,[0,1,2,3,4,5,6,7,8,9,10]),(23,[0,1,2,3,4,5,6,7,8,9,10,11,12,13,14,15,16,17])]
noncomputable def u123:Cuts:=[(.root,0),((.l (.r (.l (.r (.r .root))))),1),((.l (.l (.l (.l (.r (.l (.l (.r (.l (.r (.r .root))))))))))),2),((.l (.r (.l (.r (.l (.r (.r (.r (.r (.l (.l (.r (.l (.l (.r (.l (.r (.r .root)))))))))))))))))),3),((.l (.r (.l (.r (.r (.r (.r (.r (.r (.l (.l (.r (.l (.l (.r (.l (.r (.r .root)))))))))))))))))),4),((.r (.r (.r (.r (.r (.l (.l (.r (.l (.l (.r (.l (.r (.r .root)))))))))))))),5),((.r (.r (.l (.l (.r (.l (.r (.r .root)))))))),6)]
noncomputable def d124:Code:=Option.rec .skip (fun c=>c) Go.Proofs.Tryz.f124.body
noncomputable def q124:Plans:=[]
noncomputable def u124:Cuts:=[(.root,0)]
noncomputable def d125:Code:=Option.rec .skip (fun c=>c) Go.Proofs.Tryz.f125.body
noncomputable def q125:Plans:=[(1,[0,1,2,3,4,5,6,7,8,9,10,11,12,13,14,15]),(3,[0,1,2,3,4,5,6,7,8,9,10,11,12,13,14]),(5,[0,1,2,3,4,5,6,7,8,9,10,11,12,13]),(8,[0,1,2,3,4,5,6,7,8,9,10,11,12,13,14,15])]
noncomputable def u125:Cuts:=[(.root,0),((.l (.l (.r (.r (.r .root))))),1),((.l (.l (.l (.l (.l (.l (.r (.r (.r .root))))))))),2),((.l (.l (.r (.l (.l (.l (.l (.r (.r (.r .root)))))))))),3)]
noncomputable def d126:Code:=Option.rec .skip (fun c=>c) Go.Proofs.Tryz.f126.body
noncomputable def q126:Plans:=[(1,[0,1,2,3,4,5,6,7,8,9,10,11,12,13,14,15]),(3,[0,1,2,3,4,5,6,7,8,9,10,11,12,13]),(5,[0,1,2,3,4,5,6,7,8,9,10,11,12,13,14]),(8,[0,1,2,3,4,5,6,7,8,9,10,11,12,13,14,15]),(10,[0,1,2,3,4,5,6,7,8,9,10,11,12,13,14,15]),(13,[0,1,2,3,4,5,6,7,8,9,10,11,12,13]),(15,[0,1,2,3,4,5,6,7,8,9,10,11,12,13,14]),(18,[0,1,2,3,4,5,6,7,8,9,10,11,12,13,14,15]),(21,[0,1,2,3,4,5,6,7,8,9,10,11,12,13,14,15])]
noncomputable def u126:Cuts:=[(.root,0),((.l (.l (.r (.r (.r .root))))),1),((.l (.l (.r (.r (.r (.r .root)))))),2),((.l (.l (.r (.r (.r (.r (.r (.r (.r (.r (.r .root))))))))))),3),((.l (.l (.l (.l (.l (.l (.r (.r (.r (.r (.r (.r (.r (.r (.r .root))))))))))))))),4),((.l (.l (.r (.l (.l (.l (.l (.r (.r (.r (.r (.r (.r (.r (.r (.r .root)))))))))))))))),5),((.r (.r (.r (.r (.r (.r (.r (.r (.r .root))))))))),6)]
noncomputable def d127:Code:=Option.rec .skip (fun c=>c) Go.Proofs.Tryz.f127.body
noncomputable def q127:Plans:=[]
noncomputable def u127:Cuts:=[(.root,0),((.r (.r (.r .root))),1),((.r (.r .root)),2)]
noncomputable def d128:Code:=Option.rec .skip (fun c=>c) Go.Proofs.Tryz.f128.body
noncomputable def q128:Plans:=[]
noncomputable def u128:Cuts:=[(.root,0),((.r (.r (.r (.r .root)))),1),((.r (.r (.r .root))),2),((.r (.r .root)),3)]
noncomputable def d129:Code:=Option.rec .skip (fun c=>c) Go.Proofs.Tryz.f129.body
noncomputable def q129:Plans:=[]
noncomputable def u129:Cuts:=[(.root,0)]
noncomputable def d130:Code:=Option.rec .skip (fun c=>c) Go.Proofs.Tryz.f130.body
noncomputable def q130:Plans:=[(3,[0,1,2,3,4,5,6,7,8,9,10,11,12,13,14,15,16,17,18,19,20,21,22,23]),(9,[0,1,2,3,4,5,6,7,8,9]),(14,[0,1,2,3,4,5,6,7,8,9,10,11,12,13,14,15])]
noncomputable def u130:Cuts:=[(.root,0),((.l (.l (.l (.r (.l (.l (.r (.r .root)))))))),1),((.l (.r (.l (.r (.r (.r .root)))))),2)]
noncomputable def d131:Code:=Option.rec .skip (fun c=>c) Go.Proofs.Tryz.f131.body
noncomputable def q131:Plans:=[]
noncomputable def u131:Cuts:=[(.root,0),((.l (.r (.l (.l (.r (.l (.r (.r .root)))))))),1)]
noncomputable def d132:Code:=Option.rec .skip (fun c=>c) Go.Proofs.Tryz.f132.body
noncomputable def q132:Plans:=[(1,[0,1,2,3,4,5,6,7,8,9,10,11,12,13,14,15,16,17,18,19,20,21,22])]
noncomputable def u132:Cuts:=[(.root,0)]
noncomputable def d133:Code:=Option.rec .skip (fun c=>c) Go.Proofs.Tryz.f133.body
noncomputable def q133:Plans:=[]
noncomputable def u133:Cuts:=[(.root,0),((.l (.l (.r (.r (.r .root))))),1)]
noncomputable def d134:Code:=Option.rec .skip (fun c=>c) Go.Proofs.Tryz.f134.body
noncomputable def q134:Plans:=[]
noncomputable def u134:Cuts:=[(.root,0),((.r (.r .root)),1)]
noncomputable def d135:Code:=Option.rec .skip (fun c=>c) Go.Proofs.Tryz.f135.body
noncomputable def q135:Plans:=[]
noncomputable def u135:Cuts:=[(.root,0)]
noncomputable def d136:Code:=Option.rec .skip (fun c=>c) Go.Proofs.Tryz.f136.body
noncomputable def q136:Plans:=[]
noncomputable def u136:Cuts:=[(.root,0),((.l (.r (.l (.r (.r .root))))),1)]
noncomputable def d137:Code:=Option.rec .skip (fun c=>c) Go.Proofs.Tryz.f137.body
noncomputable def q137:Plans:=[]
noncomputable def u137:Cuts:=[(.root,0)]
noncomputable def d138:Code:=Option.rec .skip (fun c=>c) Go.Proofs.Tryz.f138.body
noncomputable def q138:Plans:=[]
noncomputable def u138:Cuts:=[(.root,0),((.l (.r (.l (.r (.r (.r .root)))))),1),((.r (.r (.l (.l (.r (.l (.r (.r (.r .root))))))))),2)]
noncomputable def d139:Code:=Option.rec .skip (fun c=>c) Go.Proofs.Tryz.f139.body
noncomputable def q139:Plans:=[]
noncomputable def u139:Cuts:=[(.root,0)]
noncomputable def d140:Code:=Option.rec .skip (fun c=>c) Go.Proofs.Tryz.f140.body
noncomputable def q140:Plans:=[(1,[0,1,2,3,4,5,6,7,8,9,10,11,12])]
noncomputable def u140:Cuts:=[(.root,0)]
noncomputable def d141:Code:=Option.rec .skip (fun c=>c) Go.Proofs.Tryz.f141.body
noncomputable def q141:Plans:=[]
noncomputable def u141:Cuts:=[(.root,0)]
noncomputable def d142:Code:=Option.rec .skip (fun c=>c) Go.Proofs.Tryz.f142.body
noncomputable def q142:Plans:=[(11,[0,1,2,3,4,5,6,7,8]),(15,[0,1,2,3,4,5,6,7,8])]
noncomputable def u142:Cuts:=[(.root,0),((.r (.l (.r (.r (.r (.r (.r (.r (.r (.r .root)))))))))),1)]
noncomputable def d143:Code:=Option.rec .skip (fun c=>c) Go.Proofs.Tryz.f143.body
noncomputable def q143:Plans:=[(2,[0,1,2,3,4,5,6,7,8,9,10,11,12,13])]
noncomputable def u143:Cuts:=[(.root,0)]
noncomputable def d144:Code:=Option.rec .skip (fun c=>c) Go.Proofs.Tryz.f144.body
noncomputable def q144:Plans:=[]
noncomputable def u144:Cuts:=[(.root,0),((.l (.r (.l (.r .root)))),1)]
noncomputable def d145:Code:=Option.rec .skip (fun c=>c) Go.Proofs.Tryz.f145.body
noncomputable def q145:Plans:=[(2,[0,1,2,3,4,5,6,7]),(9,[0,1,2,3,4,5,6,7,8])]
noncomputable def u145:Cuts:=[(.root,0),((.l (.r (.l (.r (.r (.r (.r .root))))))),1)]
noncomputable def d146:Code:=Option.rec .skip (fun c=>c) Go.Proofs.Tryz.f146.body
noncomputable def q146:Plans:=[]
noncomputable def u146:Cuts:=[(.root,0),((.l (.r (.l (.r (.r .root))))),1),((.l (.r (.l (.r (.r (.r (.l (.l (.r (.r (.l (.l (.r (.l (.r (.r .root)))))))))))))))),2)]
noncomputable def d147:Code:=Option.rec .skip (fun c=>c) Go.Proofs.Tryz.f147.body
noncomputable def q147:Plans:=[]
noncomputable def u147:Cuts:=[(.root,0),((.l (.r (.l (.r .root)))),1),((.l (.r (.l (.r (.r (.l (.l (.r (.r (.l (.l (.r (.l (.r .root)))))))))))))),2)]
noncomputable def d148:Code:=Option.rec .skip (fun c=>c) Go.Proofs.Tryz.f148.body
noncomputable def q148:Plans:=[(13,[0,1,2,3,4,5,6,7,8,9,10,11,12,13])]
noncomputable def u148:Cuts:=[(.root,0),((.l (.r (.l (.r (.r (.r (.r .root))))))),1)]
noncomputable def d149:Code:=Option.rec .skip (fun c=>c) Go.Proofs.Tryz.f149.body
noncomputable def q149:Plans:=[]
noncomputable def u149:Cuts:=[(.root,0)]
noncomputable def d150:Code:=Option.rec .skip (fun c=>c) Go.Proofs.Tryz.f150.body
noncomputable def q150:Plans:=[]
noncomputable def u150:Cuts:=[(.root,0),((.l (.r (.l (.r (.r .root))))),1),((.l (.r (.l (.r (.r (.r (.r .root))))))),2)]
noncomputable def d151:Code:=Option.rec .skip (fun c=>c) Go.Proofs.Tryz.f151.body
noncomputable def q151:Plans:=[(6,[0,1,2,3,4,5,6,7,8,9]),(11,[0,1,2,3,4,5,6,7,8,9])]
noncomputable def u151:Cuts:=[(.root,0),((.l (.r (.l (.r (.r .root))))),1),((.l (.r (.l (.r (.l (.r (.l (.l (.r (.l (.l (.r (.l (.r (.r .root))))))))))))))),2),((.r (.r (.l (.l (.r (.l (.r (.l (.r (.l (.l (.r (.l (.l (.r (.l (.r (.r .root)))))))))))))))))),3)]
noncomputable def d152:Code:=Option.rec .skip (fun c=>c) Go.Proofs.Tryz.f152.body
noncomputable def q152:Plans:=[]
noncomputable def u152:Cuts:=[(.root,0),((.r (.l (.r (.r (.r (.r (.r (.r (.r (.r (.r (.r .root)))))))))))),1)]
noncomputable def d153:Code:=Option.rec .skip (fun c=>c) Go.Proofs.Tryz.f153.body
noncomputable def q153:Plans:=[]
structure J153 where
  a0:Nat→Nat→Nat→Nat→H→Prop
  a1:Nat→Nat→Nat→Nat→Int→Int→Int→Int→Int→Int→H→Prop
  a2:Nat→Nat→Nat→Nat→Int→Int→Int→Int→Int→Int→H→Prop
noncomputable def s153_0 (c:Caller Prop FT) (k:KV) (J:J153) (l_0:Nat) (c_0:Nat) (l_1:Nat) (c_1:Nat) (h:H):Prop:=
 joinB (fun k1=>gate false (ibeq (Int.ofNat l_1) (Int.ofNat 0))
 (k1 (strEq l_1 c_1 l_0 c_0) h)
 (k1 true h)) fun b3 h2=>
 cnd b3
 (k (.int .i64 (Int.ofNat 0)) h2)
 (cnd (ibeq (Int.ofNat l_1) (Int.ofNat 1))
 (idxS l_1 c_1 0 fun m4=>
 c (.func 196) [(.str l_0 c_0),(.int .u8 (Int.ofNat m4))] h2 fun v5 h6=>
 asI .i64 v5 fun n7=>
 k (.int .i64 n7) h6)
 (cnd (ible (Int.ofNat l_0) (Int.ofNat l_1))
 (k (.int .i64 (Int.negSucc 0)) h2)
 (ld1 (.ptr (.r .z) 0) h2 fun v8=>
 asI .i64 v8 fun n9=>
 joinB (fun k10=>gate true (ible (Int.ofNat l_1) n9)
 (k10 (ible (Int.ofNat l_0) (Int.ofNat 64)) h2)
 (k10 false h2)) fun b12 h11=>
 cnd b12
 (c (.func 197) [(.str l_0 c_0),(.str l_1 c_1)] h11 fun v13 h14=>
 asI .i64 v13 fun n15=>
 k (.int .i64 n15) h14)
 (idxS l_1 c_1 0 fun m16=>
 idxS l_1 c_1 1 fun m17=>
 fI (wrap .i64 (isub (Int.ofNat l_0) (Int.ofNat l_1))) fun n18=>
 fI (wrap .i64 (iadd n18 (Int.ofNat 1))) fun n19=>
 J.a1 l_0 c_0 l_1 c_1 (Int.ofNat l_1) (Int.ofNat m16) (Int.ofNat m17) (Int.ofNat 0) n19 (Int.ofNat 0) h11))))
noncomputable def s153_1 (c:Caller Prop FT) (k:KV) (J:J153) (l_0:Nat) (c_0:Nat) (l_1:Nat) (c_1:Nat) (n_5:Int) (n_6:Int) (n_7:Int) (n_8:Int) (n_9:Int) (n_10:Int) (h:H):Prop:=
 cnd (iblt n_8 n_9)
 (natI n_8 fun m20=>
 idxS l_0 c_0 m20 fun m21=>
 cnd (bnot (ibeq (Int.ofNat m21) n_6))
 (fI (wrap .i64 (iadd n_8 (Int.ofNat 1))) fun n22=>
 natI n_9 fun m23=>
 natI n22 fun m24=>
 cutS l_0 c_0 m24 m23 fun l25 c26=>
 c (.func 196) [(.str l25 c26),(.int .u8 n_6)] h fun v27 h28=>
 asI .i64 v27 fun n29=>
 cnd (iblt n29 (Int.ofNat 0))
 (k (.int .i64 (Int.negSucc 0)) h28)
 (fI (wrap .i64 (iadd n29 (Int.ofNat 1))) fun n30=>
 fI (wrap .i64 (iadd n_8 n30)) fun n31=>
 J.a2 l_0 c_0 l_1 c_1 n_5 n_6 n_7 n31 n_9 n_10 h28))
 (J.a2 l_0 c_0 l_1 c_1 n_5 n_6 n_7 n_8 n_9 n_10 h))
 (k (.int .i64 (Int.negSucc 0)) h)
noncomputable def s153_2 (c:Caller Prop FT) (k:KV) (J:J153) (l_0:Nat) (c_0:Nat) (l_1:Nat) (c_1:Nat) (n_5:Int) (n_6:Int) (n_7:Int) (n_8:Int) (n_9:Int) (n_10:Int) (h:H):Prop:=
 fI (wrap .i64 (iadd n_8 (Int.ofNat 1))) fun n32=>
 natI n32 fun m33=>
 idxS l_0 c_0 m33 fun m34=>
 joinB (fun k35=>gate true (ibeq (Int.ofNat m34) n_7)
 (fI (wrap .i64 (iadd n_8 n_5)) fun n38=>
 natI n38 fun m39=>
 natI n_8 fun m40=>
 cutS l_0 c_0 m40 m39 fun l41 c42=>
 k35 (strEq l41 c42 l_1 c_1) h)
 (k35 false h)) fun b37 h36=>
 cnd b37
 (k (.int .i64 n_8) h36)
 (fI (wrap .i64 (iadd n_8 (Int.ofNat 1))) fun n43=>
 fI (wrap .i64 (iadd n_10 (Int.ofNat 1))) fun n44=>
 ld1 (.ptr (.r .z) 0) h36 fun v45=>
 asI .i64 v45 fun n46=>
 joinB (fun k47=>gate true (ible n_5 n46)
 (c (.func 198) [(.int .i64 n43)] h36 fun v50 h51=>
 asI .i64 v50 fun n52=>
 k47 (iblt n52 n44) h51)
 (k47 false h36)) fun b49 h48=>
 cnd b49
 (natI n43 fun m53=>
 cutS l_0 c_0 m53 l_0 fun l54 c55=>
 c (.func 197) [(.str l54 c55),(.str l_1 c_1)] h48 fun v56 h57=>
 asI .i64 v56 fun n58=>
 cnd (ible (Int.ofNat 0) n58)
 (fI (wrap .i64 (iadd n58 n43)) fun n59=>
 k (.int .i64 n59) h57)
 (k (.int .i64 (Int.negSucc 0)) h57))
 (ld1 (.ptr (.r .z) 0) h48 fun v60=>
 asI .i64 v60 fun n61=>
 joinB (fun k62=>gate true (iblt n61 n_5)
 (shrI .i64 n43 (Int.ofNat 4) fun n65=>
 fI (wrap .i64 (iadd (Int.ofNat 4) n65)) fun n66=>
 k62 (ible n66 n44) h48)
 (k62 false h48)) fun b64 h63=>
 joinB (fun k67=>gate true b64
 (k67 (iblt n43 n_9) h63)
 (k67 false h63)) fun b69 h68=>
 cnd b69
 (natI n43 fun m70=>
 cutS l_0 c_0 m70 l_0 fun l71 c72=>
 c (.func 199) [(.str l71 c72),(.str l_1 c_1)] h68 fun v73 h74=>
 asI .i64 v73 fun n75=>
 cnd (iblt n75 (Int.ofNat 0))
 (k (.int .i64 (Int.negSucc 0)) h74)
 (fI (wrap .i64 (iadd n43 n75)) fun n76=>
 k (.int .i64 n76) h74))
 (J.a1 l_0 c_0 l_1 c_1 n_5 n_6 n_7 n43 n_9 n44 h68)))
noncomputable def z153:J153:=⟨fun _ _ _ _ _=>False,fun _ _ _ _ _ _ _ _ _ _ _=>False,fun _ _ _ _ _ _ _ _ _ _ _=>False⟩
noncomputable def r153 (c:Caller Prop FT) (k:KV) (m:Nat):J153:=Nat.rec z153 (fun _ J=>⟨s153_0 c k J,s153_1 c k J,s153_2 c k J⟩) m
noncomputable def f153 (J:J153):Jump:=fun L f h=>match L with
  |0=>asS (f 0) fun l_0 c_0=>asS (f 1) fun l_1 c_1=>J.a0 l_0 c_0 l_1 c_1 h
  |1=>asS (f 0) fun l_0 c_0=>asS (f 1) fun l_1 c_1=>asI .i64 (f 5) fun n_5=>asI .u8 (f 6) fun n_6=>asI .u8 (f 7) fun n_7=>asI .i64 (f 8) fun n_8=>asI .i64 (f 9) fun n_9=>asI .i64 (f 10) fun n_10=>J.a1 l_0 c_0 l_1 c_1 n_5 n_6 n_7 n_8 n_9 n_10 h
  |2=>asS (f 0) fun l_0 c_0=>asS (f 1) fun l_1 c_1=>asI .i64 (f 5) fun n_5=>asI .u8 (f 6) fun n_6=>asI .u8 (f 7) fun n_7=>asI .i64 (f 8) fun n_8=>asI .i64 (f 9) fun n_9=>asI .i64 (f 10) fun n_10=>J.a2 l_0 c_0 l_1 c_1 n_5 n_6 n_7 n_8 n_9 n_10 h
  |_=>False
noncomputable def u153:Cuts:=[(.root,0),((.l (.l (.r (.r (.r (.r (.r (.r (.r (.r .root)))))))))),1),((.r (.l (.r (.l (.l (.l (.r (.r (.r (.r (.r (.r (.r (.r .root)))))))))))))),2)]
noncomputable def d154:Code:=Option.rec .skip (fun c=>c) Go.Proofs.Tryz.f154.body
noncomputable def q154:Plans:=[]
structure J154 where
  a0:Nat→Nat→Nat→Nat→H→Prop
noncomputable def s154_0 (_c:Caller Prop FT) (k:KV) (_J:J154) (l_0:Nat) (c_0:Nat) (l_1:Nat) (c_1:Nat) (h:H):Prop:=
 joinB (fun k1=>gate true (ible (Int.ofNat l_1) (Int.ofNat l_0))
 (cutS l_0 c_0 0 l_1 fun l4 c5=>
 k1 (strEq l4 c5 l_1 c_1) h)
 (k1 false h)) fun b3 h2=>
 k (.bool b3) h2
noncomputable def z154:J154:=⟨fun _ _ _ _ _=>False⟩
noncomputable def r154 (c:Caller Prop FT) (k:KV) (m:Nat):J154:=Nat.rec z154 (fun _ J=>⟨s154_0 c k J⟩) m
noncomputable def f154 (J:J154):Jump:=fun L f h=>match L with
  |0=>asS (f 0) fun l_0 c_0=>asS (f 1) fun l_1 c_1=>J.a0 l_0 c_0 l_1 c_1 h
  |_=>False
noncomputable def u154:Cuts:=[(.root,0)]
noncomputable def d155:Code:=Option.rec .skip (fun c=>c) Go.Proofs.Tryz.f155.body
noncomputable def q155:Plans:=[]
structure J155 where
  a0:Nat→Nat→Int→H→Prop
noncomputable def s155_0 (c:Caller Prop FT) (k:KV) (_J:J155) (l_0:Nat) (c_0:Nat) (n_1:Int) (h:H):Prop:=
 c (.func 196) [(.str l_0 c_0),(.int .u8 n_1)] h fun v1 h2=>
 asI .i64 v1 fun n3=>
 k (.int .i64 n3) h2
noncomputable def z155:J155:=⟨fun _ _ _ _=>False⟩
noncomputable def r155 (c:Caller Prop FT) (k:KV) (m:Nat):J155:=Nat.rec z155 (fun _ J=>⟨s155_0 c k J⟩) m
noncomputable def f155 (J:J155):Jump:=fun L f h=>match L with
  |0=>asS (f 0) fun l_0 c_0=>asI .u8 (f 1) fun n_1=>J.a0 l_0 c_0 n_1 h
  |_=>False
noncomputable def u155:Cuts:=[(.root,0)]
noncomputable def d156:Code:=Option.rec .skip (fun c=>c) Go.Proofs.Tryz.f156.body
noncomputable def q156:Plans:=[]
noncomputable def u156:Cuts:=[(.root,0)]
noncomputable def d157:Code:=Option.rec .skip (fun c=>c) Go.Proofs.Tryz.f157.body
noncomputable def q157:Plans:=[]
noncomputable def u157:Cuts:=[(.root,0),((.l (.r (.r .root))),1)]
noncomputable def d158:Code:=Option.rec .skip (fun c=>c) Go.Proofs.Tryz.f158.body
noncomputable def q158:Plans:=[]
noncomputable def u158:Cuts:=[(.root,0)]
noncomputable def d159:Code:=Option.rec .skip (fun c=>c) Go.Proofs.Tryz.f159.body
noncomputable def q159:Plans:=[(5,[0,1,2]),(10,[0,1,2]),(14,[0,1,2,3,4,5,6,7,8])]
noncomputable def u159:Cuts:=[(.root,0),((.r (.r (.r (.r (.r (.r (.r (.r (.r (.r .root)))))))))),1),((.r (.l (.r (.r (.r (.r (.r (.r (.r (.r (.r .root))))))))))),2)]
noncomputable def d160:Code:=Option.rec .skip (fun c=>c) Go.Proofs.Tryz.f160.body
noncomputable def q160:Plans:=[(1,[0,1,2,3,4,5,6,7,8])]
noncomputable def u160:Cuts:=[(.root,0)]
noncomputable def d161:Code:=Option.rec .skip (fun c=>c) Go.Proofs.Tryz.f161.body
noncomputable def q161:Plans:=[(5,[0,1,2,3,4,5,6,7,8]),(6,[0,1,2,3,4,5,6,7,8,9,10,11,12,13,14,15,16,17,18,19,20]),(9,[0,1,2,3,4,5,6,7,8]),(10,[0,1,2,3,4,5,6,7,8,9,10,11,12,13,14,15,16,17,18,19,20,21,22,23,24,25,26,27]),(11,[0,1,2,3,4,5,6,7,8])]
noncomputable def u161:Cuts:=[(.root,0),((.r (.r .root)),1),((.r (.r (.r (.l (.r (.r (.r (.r (.r .root))))))))),2)]
noncomputable def d162:Code:=Option.rec .skip (fun c=>c) Go.Proofs.Tryz.f162.body
noncomputable def q162:Plans:=[(6,[0,1,2,3,4,5,6,7,8]),(8,[0,1,2,3,4,5,6,7,8,9,10,11,12,13,14]),(9,[0,1,2,3,4,5,6])]
noncomputable def u162:Cuts:=[(.root,0),((.l (.r (.l (.r .root)))),1),((.r (.r (.l (.l (.r (.r (.l (.l (.r (.l (.r .root))))))))))),2)]
noncomputable def d163:Code:=Option.rec .skip (fun c=>c) Go.Proofs.Tryz.f163.body
noncomputable def q163:Plans:=[(1,[0,1,2,3,4,5,6,7,8]),(4,[0,1,2,3,4,5,6]),(5,[0,1,2,3,4,5,6,7,8,9])]
noncomputable def u163:Cuts:=[(.root,0),((.r (.r .root)),1)]
noncomputable def d164:Code:=Option.rec .skip (fun c=>c) Go.Proofs.Tryz.f164.body
noncomputable def q164:Plans:=[(4,[0,1,2,3,4,5,6,7,8]),(5,[0,1,2,3,4,5,6,7,8,9,10,11,12,13,14,15,16,17,18])]
noncomputable def u164:Cuts:=[(.root,0)]
noncomputable def d165:Code:=Option.rec .skip (fun c=>c) Go.Proofs.Tryz.f165.body
noncomputable def q165:Plans:=[]
noncomputable def u165:Cuts:=[(.root,0),((.l (.r (.r .root))),1)]
noncomputable def d166:Code:=Option.rec .skip (fun c=>c) Go.Proofs.Tryz.f166.body
noncomputable def q166:Plans:=[]
noncomputable def u166:Cuts:=[(.root,0)]
noncomputable def d167:Code:=Option.rec .skip (fun c=>c) Go.Proofs.Tryz.f167.body
noncomputable def q167:Plans:=[]
noncomputable def u167:Cuts:=[(.root,0),((.l (.r (.l (.r (.r .root))))),1),((.r (.r (.l (.l (.r (.r (.l (.l (.r (.l (.r (.r .root)))))))))))),2)]
noncomputable def d169:Code:=Option.rec .skip (fun c=>c) Go.Proofs.Tryz.f169.body
noncomputable def q169:Plans:=[]
noncomputable def u169:Cuts:=[(.root,0)]
noncomputable def d170:Code:=Option.rec .skip (fun c=>c) Go.Proofs.Tryz.f170.body
noncomputable def q170:Plans:=[(1,[0,1,2,3,4,5,6,7,8,9]),(2,[0,1,2,3,4,5,6,7,8,9]),(3,[0,1,2,3,4,5,6,7,8,9])]
noncomputable def u170:Cuts:=[(.root,0)]
noncomputable def d171:Code:=Option.rec .skip (fun c=>c) Go.Proofs.Tryz.f171.body
noncomputable def q171:Plans:=[]
noncomputable def u171:Cuts:=[(.root,0)]
noncomputable def d172:Code:=Option.rec .skip (fun c=>c) Go.Proofs.Tryz.f172.body
noncomputable def q172:Plans:=[]
noncomputable def u172:Cuts:=[(.root,0)]
noncomputable def d173:Code:=Option.rec .skip (fun c=>c) Go.Proofs.Tryz.f173.body
noncomputable def q173:Plans:=[]
noncomputable def u173:Cuts:=[(.root,0)]
noncomputable def d174:Code:=Option.rec .skip (fun c=>c) Go.Proofs.Tryz.f174.body
noncomputable def q174:Plans:=[(1,[0,1,2,3,4,5,6,7,8,9,10,11,12]),(6,[0,1,2,3,4,5,6,7,8,9,10,11,12,13,14,15,16])]
noncomputable def u174:Cuts:=[(.root,0),((.l (.r (.l (.r (.r .root))))),1)]
noncomputable def d175:Code:=Option.rec .skip (fun c=>c) Go.Proofs.Tryz.f175.body
noncomputable def q175:Plans:=[(12,[0,1,2,3,4,5,6,7,8,9,10,11,12,13,14,15])]
noncomputable def u175:Cuts:=[(.root,0),((.r (.r (.l (.r (.r (.l (.r (.r (.r .root))))))))),1)]
noncomputable def d176:Code:=Option.rec .skip (fun c=>c) Go.Proofs.Tryz.f176.body
noncomputable def q176:Plans:=[]
noncomputable def u176:Cuts:=[(.root,0)]
noncomputable def d177:Code:=Option.rec .skip (fun c=>c) Go.Proofs.Tryz.f177.body
noncomputable def q177:Plans:=[(1,[0,1,2,3,4,5,6,7,8,9,10,11]),(3,[0,1,2,3,4,5,6,7,8,9,10,11,12,13])]
noncomputable def u177:Cuts:=[(.root,0)]
noncomputable def d178:Code:=Option.rec .skip (fun c=>c) Go.Proofs.Tryz.f178.body
noncomputable def q178:Plans:=[]
noncomputable def u178:Cuts:=[(.root,0)]
noncomputable def d179:Code:=Option.rec .skip (fun c=>c) Go.Proofs.Tryz.f179.body
noncomputable def q179:Plans:=[]
noncomputable def u179:Cuts:=[(.root,0),((.l (.r (.r (.r (.r (.r .root)))))),1),((.r (.l (.l (.r (.r (.r (.r (.r .root)))))))),2),((.r (.r (.r .root))),3)]
noncomputable def d180:Code:=Option.rec .skip (fun c=>c) Go.Proofs.Tryz.f180.body
noncomputable def q180:Plans:=[]
noncomputable def u180:Cuts:=[(.root,0),((.l (.r (.l (.r (.r .root))))),1)]
noncomputable def d181:Code:=Option.rec .skip (fun c=>c) Go.Proofs.Tryz.f181.body
noncomputable def q181:Plans:=[]
noncomputable def u181:Cuts:=[(.root,0)]
noncomputable def d182:Code:=Option.rec .skip (fun c=>c) Go.Proofs.Tryz.f182.body
noncomputable def q182:Plans:=[]
noncomputable def u182:Cuts:=[(.root,0)]
noncomputable def d183:Code:=Option.rec .skip (fun c=>c) Go.Proofs.Tryz.f183.body
noncomputable def q183:Plans:=[]
noncomputable def u183:Cuts:=[(.root,0)]
noncomputable def d185:Code:=Option.rec .skip (fun c=>c) Go.Proofs.Tryz.f185.body
noncomputable def q185:Plans:=[]
noncomputable def u185:Cuts:=[(.root,0)]
noncomputable def d186:Code:=Option.rec .skip (fun c=>c) Go.Proofs.Tryz.f186.body
noncomputable def q186:Plans:=[(1,[0,1,2,4,5,6,3,8,7,9])]
noncomputable def u186:Cuts:=[(.root,0),((.l (.r (.l (.r (.r .root))))),1)]
noncomputable def d187:Code:=Option.rec .skip (fun c=>c) Go.Proofs.Tryz.f187.body
noncomputable def q187:Plans:=[]
noncomputable def u187:Cuts:=[(.root,0)]
noncomputable def d188:Code:=Option.rec .skip (fun c=>c) Go.Proofs.Tryz.f188.body
noncomputable def q188:Plans:=[(3,[0,1,2,3,4,5,6,7,8,9,10,11,12,13,14,15])]
noncomputable def u188:Cuts:=[(.root,0),((.l (.r .root)),1)]
noncomputable def d189:Code:=Option.rec .skip (fun c=>c) Go.Proofs.Tryz.f189.body
noncomputable def q189:Plans:=[(3,[0,1,2,3,4,5,6])]
noncomputable def u189:Cuts:=[(.root,0)]
noncomputable def d190:Code:=Option.rec .skip (fun c=>c) Go.Proofs.Tryz.f190.body
noncomputable def q190:Plans:=[]
noncomputable def u190:Cuts:=[(.root,0)]
noncomputable def d191:Code:=Option.rec .skip (fun c=>c) Go.Proofs.Tryz.f191.body
noncomputable def q191:Plans:=[]
noncomputable def u191:Cuts:=[(.root,0)]
noncomputable def d192:Code:=Option.rec .skip (fun c=>c) Go.Proofs.Tryz.f192.body
noncomputable def q192:Plans:=[(5,[0,1,2,3,4,5,6,7,8,9,10,11,12,13,14,15,16,17,18,19,20,21,22]),(6,[0,1,2,3,4,5,6,7,8,9,10,11]),(8,[0,1,2,3,4,5,6])]
noncomputable def u192:Cuts:=[(.root,0),((.l (.r (.l (.r (.r (.r (.r (.r (.r (.r (.r (.r .root)))))))))))),1),((.r (.r (.l (.l (.r (.r (.l (.l (.r (.l (.r (.r (.r (.r (.r (.r (.r (.r (.r .root))))))))))))))))))),2),((.r (.r (.r (.r (.r (.r (.r (.r (.r .root))))))))),3),((.r (.r (.l (.r (.l (.r (.r (.r .root)))))))),4),((.r (.r (.r (.r (.r (.r (.r (.r .root)))))))),5)]
noncomputable def d193:Code:=Option.rec .skip (fun c=>c) Go.Proofs.Tryz.f193.body
noncomputable def q193:Plans:=[(4,[0,1,2,3,4,5,6,7,8,13,9,10,11,12,14,15]),(6,[0,1,3,4,5,6,2,7,8,9]),(7,[0,1,2,3,4,7,8,10,5,6,9,11,12])]
noncomputable def u193:Cuts:=[(.root,0)]
noncomputable def d194:Code:=Option.rec .skip (fun c=>c) Go.Proofs.Tryz.f194.body
noncomputable def q194:Plans:=[]
noncomputable def u194:Cuts:=[(.root,0),((.l (.r .root)),1)]
noncomputable def d195:Code:=Option.rec .skip (fun c=>c) Go.Proofs.Tryz.f195.body
noncomputable def q195:Plans:=[]
noncomputable def u195:Cuts:=[(.root,0),((.r (.r .root)),1)]
noncomputable def d196:Code:=Option.rec .skip (fun c=>c) Go.Proofs.Tryz.f196.body
noncomputable def q196:Plans:=[]
structure J196 where
  a0:Nat→Nat→Int→H→Prop
noncomputable def s196_0 (c:Caller Prop FT) (k:KV) (_J:J196) (l_0:Nat) (c_0:Nat) (n_1:Int) (h:H):Prop:=
 c (.func 228) [(.str l_0 c_0),(.int .u8 n_1)] h fun v1 h2=>
 asI .i64 v1 fun n3=>
 k (.int .i64 n3) h2
noncomputable def z196:J196:=⟨fun _ _ _ _=>False⟩
noncomputable def r196 (c:Caller Prop FT) (k:KV) (m:Nat):J196:=Nat.rec z196 (fun _ J=>⟨s196_0 c k J⟩) m
noncomputable def f196 (J:J196):Jump:=fun L f h=>match L with
  |0=>asS (f 0) fun l_0 c_0=>asI .u8 (f 1) fun n_1=>J.a0 l_0 c_0 n_1 h
  |_=>False
noncomputable def u196:Cuts:=[(.root,0)]
noncomputable def d198:Code:=Option.rec .skip (fun c=>c) Go.Proofs.Tryz.f198.body
noncomputable def q198:Plans:=[]
noncomputable def u198:Cuts:=[(.root,0)]
noncomputable def d199:Code:=Option.rec .skip (fun c=>c) Go.Proofs.Tryz.f199.body
noncomputable def q199:Plans:=[]
noncomputable def u199:Cuts:=[(.root,0),((.l (.r (.l (.r (.r (.r (.r .root))))))),1),((.l (.r (.l (.r (.r (.r (.r (.r (.r .root))))))))),2)]
noncomputable def d200:Code:=Option.rec .skip (fun c=>c) Go.Proofs.Tryz.f200.body
noncomputable def q200:Plans:=[]
noncomputable def u200:Cuts:=[(.root,0)]
noncomputable def d201:Code:=Option.rec .skip (fun c=>c) Go.Proofs.Tryz.f201.body
noncomputable def q201:Plans:=[]
noncomputable def u201:Cuts:=[(.root,0)]
noncomputable def d202:Code:=Option.rec .skip (fun c=>c) Go.Proofs.Tryz.f202.body
noncomputable def q202:Plans:=[]
noncomputable def u202:Cuts:=[(.root,0),((.l (.l (.r (.r (.r .root))))),1),((.r (.r (.r (.r (.r (.r (.r (.l (.r (.l (.l (.l (.r (.r (.r .root))))))))))))))),2)]
noncomputable def d203:Code:=Option.rec .skip (fun c=>c) Go.Proofs.Tryz.f203.body
noncomputable def q203:Plans:=[]
noncomputable def u203:Cuts:=[(.root,0)]
noncomputable def d204:Code:=Option.rec .skip (fun c=>c) Go.Proofs.Tryz.f204.body
noncomputable def q204:Plans:=[]
noncomputable def u204:Cuts:=[(.root,0)]
noncomputable def d205:Code:=Option.rec .skip (fun c=>c) Go.Proofs.Tryz.f205.body
noncomputable def q205:Plans:=[]
noncomputable def u205:Cuts:=[(.root,0),((.l (.r (.l (.r (.r (.r (.r (.r .root)))))))),1),((.r (.r (.l (.l (.r (.r (.l (.l (.r (.l (.r (.r (.r (.r (.r .root))))))))))))))),2)]
noncomputable def d206:Code:=Option.rec .skip (fun c=>c) Go.Proofs.Tryz.f206.body
noncomputable def q206:Plans:=[(1,[0,1,2,3,4,5,6,7,8,9,10,11,12,13,14,15,16,17,18,19,20,21,22,23,24,25,26,27,28])]
noncomputable def u206:Cuts:=[(.root,0)]
noncomputable def d207:Code:=Option.rec .skip (fun c=>c) Go.Proofs.Tryz.f207.body
noncomputable def q207:Plans:=[]
noncomputable def u207:Cuts:=[(.root,0),((.l (.r (.l (.r (.r (.r (.r .root))))))),1),((.r (.r (.r (.r .root)))),2)]
noncomputable def d208:Code:=Option.rec .skip (fun c=>c) Go.Proofs.Tryz.f208.body
noncomputable def q208:Plans:=[]
noncomputable def u208:Cuts:=[(.root,0),((.l (.r (.l (.r (.r (.r (.r (.r (.r (.r (.r (.r (.r (.r .root)))))))))))))),1),((.r (.r (.r (.r (.r (.r (.r (.r (.r (.r (.r .root))))))))))),2),((.r (.r (.r (.r (.r (.r (.r (.r (.r .root))))))))),3),((.r (.l (.r (.r (.r (.r (.r (.r (.r (.r .root)))))))))),4)]
noncomputable def d209:Code:=Option.rec .skip (fun c=>c) Go.Proofs.Tryz.f209.body
noncomputable def q209:Plans:=[(5,[0,1,2,3,4,5,6]),(6,[0,1,2,3,4,5,6,7,8,9])]
noncomputable def u209:Cuts:=[(.root,0)]
noncomputable def d210:Code:=Option.rec .skip (fun c=>c) Go.Proofs.Tryz.f210.body
noncomputable def q210:Plans:=[]
noncomputable def u210:Cuts:=[(.root,0)]
noncomputable def d211:Code:=Option.rec .skip (fun c=>c) Go.Proofs.Tryz.f211.body
noncomputable def q211:Plans:=[]
noncomputable def u211:Cuts:=[(.root,0)]
noncomputable def d212:Code:=Option.rec .skip (fun c=>c) Go.Proofs.Tryz.f212.body
noncomputable def q212:Plans:=[]
noncomputable def u212:Cuts:=[(.root,0),((.lab (.r .root) 0),1)]
noncomputable def d213:Code:=Option.rec .skip (fun c=>c) Go.Proofs.Tryz.f213.body
noncomputable def q213:Plans:=[]
noncomputable def u213:Cuts:=[(.root,0)]
noncomputable def d214:Code:=Option.rec .skip (fun c=>c) Go.Proofs.Tryz.f214.body
noncomputable def q214:Plans:=[]
noncomputable def u214:Cuts:=[(.root,0)]
noncomputable def d215:Code:=Option.rec .skip (fun c=>c) Go.Proofs.Tryz.f215.body
noncomputable def q215:Plans:=[(1,[0,1,2,3,4,5,6,7,8])]
noncomputable def u215:Cuts:=[(.root,0)]
noncomputable def d216:Code:=Option.rec .skip (fun c=>c) Go.Proofs.Tryz.f216.body
noncomputable def q216:Plans:=[]
noncomputable def u216:Cuts:=[(.root,0),((.l (.r (.l (.r .root)))),1)]
noncomputable def d217:Code:=Option.rec .skip (fun c=>c) Go.Proofs.Tryz.f217.body
noncomputable def q217:Plans:=[(3,[0,1,2,3,4,5,6,7,8,9,10,11]),(9,[0,1,2,3,4,5,6,7,8,9,10,11,12,13,14,15,16,17,18,19])]
noncomputable def u217:Cuts:=[(.root,0),((.l (.r (.l (.r (.r .root))))),1),((.r (.r (.l (.l (.r (.l (.r (.r .root)))))))),2)]
noncomputable def d218:Code:=Option.rec .skip (fun c=>c) Go.Proofs.Tryz.f218.body
noncomputable def q218:Plans:=[]
noncomputable def u218:Cuts:=[(.root,0),((.r (.r (.r (.r (.l (.r (.l (.r .root)))))))),1)]
noncomputable def d219:Code:=Option.rec .skip (fun c=>c) Go.Proofs.Tryz.f219.body
noncomputable def q219:Plans:=[]
noncomputable def u219:Cuts:=[(.root,0),((.r (.r .root)),1)]
noncomputable def d220:Code:=Option.rec .skip (fun c=>c) Go.Proofs.Tryz.f220.body
noncomputable def q220:Plans:=[]
noncomputable def u220:Cuts:=[(.root,0)]
noncomputable def d221:Code:=Option.rec .skip (fun c=>c) Go.Proofs.Tryz.f221.body
noncomputable def q221:Plans:=[]
noncomputable def u221:Cuts:=[(.root,0)]
noncomputable def d222:Code:=Option.rec .skip (fun c=>c) Go.Proofs.Tryz.f222.body
noncomputable def q222:Plans:=[]
noncomputable def u222:Cuts:=[(.root,0)]
noncomputable def d223:Code:=Option.rec .skip (fun c=>c) Go.Proofs.Tryz.f223.body
noncomputable def q223:Plans:=[]
noncomputable def u223:Cuts:=[(.root,0)]
noncomputable def d224:Code:=Option.rec .skip (fun c=>c) Go.Proofs.Tryz.f224.body
noncomputable def q224:Plans:=[]
noncomputable def u224:Cuts:=[(.root,0)]
noncomputable def d225:Code:=Option.rec .skip (fun c=>c) Go.Proofs.Tryz.f225.body
noncomputable def q225:Plans:=[]
noncomputable def u225:Cuts:=[(.root,0),((.l (.r (.l (.r (.r (.r .root)))))),1),((.r (.r (.l (.l (.r (.r (.l (.l (.r (.l (.r (.r (.r .root))))))))))))),2)]
noncomputable def d226:Code:=Option.rec .skip (fun c=>c) Go.Proofs.Tryz.f226.body
noncomputable def q226:Plans:=[]
noncomputable def u226:Cuts:=[(.root,0),((.l (.r (.l (.r .root)))),1)]
noncomputable def d227:Code:=Option.rec .skip (fun c=>c) Go.Proofs.Tryz.f227.body
noncomputable def q227:Plans:=[(4,[0,1,2,3,4,5,7,6,8,9,10,11,12,13,14])]
noncomputable def u227:Cuts:=[(.root,0)]
noncomputable def d229:Code:=Option.rec .skip (fun c=>c) Go.Proofs.Tryz.f229.body
noncomputable def q229:Plans:=[]
noncomputable def u229:Cuts:=[(.root,0),((.l (.r (.l (.r (.r .root))))),1),((.l (.r (.l (.r (.r (.r (.r .root))))))),2),((.r (.l (.l (.r (.l (.l (.r (.l (.r (.r (.r (.r .root)))))))))))),3)]
noncomputable def d231:Code:=Option.rec .skip (fun c=>c) Go.Proofs.Tryz.f231.body
noncomputable def q231:Plans:=[]
noncomputable def u231:Cuts:=[(.root,0)]
noncomputable def d232:Code:=Option.rec .skip (fun c=>c) Go.Proofs.Tryz.f232.body
noncomputable def q232:Plans:=[]
structure J232 where
  a0:AV→H→Prop
noncomputable def s232_0 (c:Caller Prop FT) (k:KV) (_J:J232) (v_0:AV) (h:H):Prop:=
 oK (exNil v_0 h) fun v1 h2=>
 fAddr 0 v1 fun v3=>
 c (.func 258) [v3] h2 fun _ h5=>
 k (.tuple []) h5
noncomputable def z232:J232:=⟨fun _ _=>False⟩
noncomputable def r232 (c:Caller Prop FT) (k:KV) (m:Nat):J232:=Nat.rec z232 (fun _ J=>⟨s232_0 c k J⟩) m
noncomputable def f232 (J:J232):Jump:=fun L f h=>match L with
  |0=>J.a0 (f 0) h
  |_=>False
noncomputable def u232:Cuts:=[(.root,0)]
noncomputable def d233:Code:=Option.rec .skip (fun c=>c) Go.Proofs.Tryz.f233.body
noncomputable def q233:Plans:=[(0,[0,1,2,3,4,5])]
structure J233 where
  a0:AV→Bool→H→Prop
noncomputable def s233_0 (c:Caller Prop FT) (k:KV) (_J:J233) (v_0:AV) (b_1:Bool) (h:H):Prop:=
 oK (exNil v_0 h) fun v1 h2=>
 fAddr 0 v1 fun v3=>
 c (.func 260) [(.bool b_1)] h2 fun v4 h5=>
 asI .u32 v4 fun n6=>
 c (.func 259) [v3,(.int .u32 n6)] h5 fun _ h8=>
 k (.tuple []) h8
noncomputable def z233:J233:=⟨fun _ _ _=>False⟩
noncomputable def r233 (c:Caller Prop FT) (k:KV) (m:Nat):J233:=Nat.rec z233 (fun _ J=>⟨s233_0 c k J⟩) m
noncomputable def f233 (J:J233):Jump:=fun L f h=>match L with
  |0=>asB (f 1) fun b_1=>J.a0 (f 0) b_1 h
  |_=>False
noncomputable def u233:Cuts:=[(.root,0)]
noncomputable def d234:Code:=Option.rec .skip (fun c=>c) Go.Proofs.Tryz.f234.body
noncomputable def q234:Plans:=[]
noncomputable def u234:Cuts:=[(.root,0)]
noncomputable def d235:Code:=Option.rec .skip (fun c=>c) Go.Proofs.Tryz.f235.body
noncomputable def q235:Plans:=[]
noncomputable def u235:Cuts:=[(.root,0),((.r (.r (.r (.r (.r (.r (.r (.r .root)))))))),1),((.r (.l (.r (.r (.r (.r (.r (.r (.r .root))))))))),2)]
noncomputable def d236:Code:=Option.rec .skip (fun c=>c) Go.Proofs.Tryz.f236.body
noncomputable def q236:Plans:=[]
noncomputable def u236:Cuts:=[(.root,0)]
noncomputable def d237:Code:=Option.rec .skip (fun c=>c) Go.Proofs.Tryz.f237.body
noncomputable def q237:Plans:=[]
noncomputable def u237:Cuts:=[(.root,0)]
noncomputable def d238:Code:=Option.rec .skip (fun c=>c) Go.Proofs.Tryz.f238.body
noncomputable def q238:Plans:=[(11,[0,1,2,3,4,5,6,7,8]),(15,[0,1,2,3,4,5,6,7,8])]
noncomputable def u238:Cuts:=[(.root,0),((.r (.l (.r (.r (.r (.r (.r (.r (.r (.r .root)))))))))),1)]
noncomputable def d239:Code:=Option.rec .skip (fun c=>c) Go.Proofs.Tryz.f239.body
noncomputable def q239:Plans:=[]
noncomputable def u239:Cuts:=[(.root,0)]
noncomputable def d240:Code:=Option.rec .skip (fun c=>c) Go.Proofs.Tryz.f240.body
noncomputable def q240:Plans:=[]
noncomputable def u240:Cuts:=[(.root,0)]
noncomputable def d241:Code:=Option.rec .skip (fun c=>c) Go.Proofs.Tryz.f241.body
noncomputable def q241:Plans:=[(1,[0,1,2,3,4,5,6])]
noncomputable def u241:Cuts:=[(.root,0)]
noncomputable def d242:Code:=Option.rec .skip (fun c=>c) Go.Proofs.Tryz.f242.body
noncomputable def q242:Plans:=[]
noncomputable def u242:Cuts:=[(.root,0),((.r (.r (.r (.r (.r (.r (.l (.r .root)))))))),1),((.lab (.r .root) 0),2),((.r (.r (.r (.r (.lab (.r .root) 0))))),3)]
noncomputable def d243:Code:=Option.rec .skip (fun c=>c) Go.Proofs.Tryz.f243.body
noncomputable def q243:Plans:=[(1,[0,1,2,3,4,5,6,7,8,9,10,11,12,13,14,15])]
noncomputable def u243:Cuts:=[(.root,0)]
noncomputable def d244:Code:=Option.rec .skip (fun c=>c) Go.Proofs.Tryz.f244.body
noncomputable def q244:Plans:=[(1,[0,1,3,4,2,6,5,7,8,9])]
noncomputable def u244:Cuts:=[(.root,0)]
noncomputable def d245:Code:=Option.rec .skip (fun c=>c) Go.Proofs.Tryz.f245.body
noncomputable def q245:Plans:=[]
noncomputable def u245:Cuts:=[(.root,0)]
noncomputable def d246:Code:=Option.rec .skip (fun c=>c) Go.Proofs.Tryz.f246.body
noncomputable def q246:Plans:=[]
noncomputable def u246:Cuts:=[(.root,0)]
noncomputable def d247:Code:=Option.rec .skip (fun c=>c) Go.Proofs.Tryz.f247.body
noncomputable def q247:Plans:=[(5,[0,1,2,3,4,5,6,7,8,9,10,11,12,13,14,15,16]),(9,[0,1,2,3,4,5])]
noncomputable def u247:Cuts:=[(.root,0),((.lab (.r .root) 1),1),((.lab (.r .root) 0),2),((.r (.l (.r (.r (.r (.r (.r (.r (.r (.l (.r .root))))))))))),3)]
noncomputable def d250:Code:=Option.rec .skip (fun c=>c) Go.Proofs.Tryz.f250.body
noncomputable def q250:Plans:=[]
noncomputable def u250:Cuts:=[(.root,0)]
noncomputable def d251:Code:=Option.rec .skip (fun c=>c) Go.Proofs.Tryz.f251.body
noncomputable def q251:Plans:=[]
noncomputable def u251:Cuts:=[(.root,0)]
noncomputable def d252:Code:=Option.rec .skip (fun c=>c) Go.Proofs.Tryz.f252.body
noncomputable def q252:Plans:=[(7,[0,1,2,3,4,5,6,7,8,9,10,11,12,13,14]),(8,[0,1,2,3,4,5,6,7,8,9,10,11,12,13,14]),(9,[0,1,2,3,4,5,6,7,8,9,10,11,12,13,14]),(10,[0,1,2,3,4,5,6,7,8,9,10,11,12,13,14]),(17,[0,1,2,3,4,5,6,7,8,9,10,11,12,13,14]),(18,[0,1,2,3,4,5,6,7,8,9,10,11,12,13,14]),(23,[0,1,2,3,4,5,6,7,8,9,10,11,12,13,14])]
noncomputable def u252:Cuts:=[(.root,0),((.l (.l (.r .root))),1),((.r (.r (.r (.r (.r .root))))),2),((.r (.r (.r (.r .root)))),3),((.r (.r (.l (.r (.l (.l (.l (.r .root)))))))),4),((.r (.r (.r (.r (.l (.r (.l (.l (.l (.r .root)))))))))),5),((.r (.r (.r (.r (.r (.r (.l (.r (.l (.l (.l (.r .root)))))))))))),6),((.r (.r (.r (.r (.r (.r (.r (.l (.r (.l (.l (.l (.r .root))))))))))))),7),((.r (.r (.r (.r (.r (.r (.r (.r (.l (.r (.l (.l (.l (.r .root)))))))))))))),8),((.r (.r (.r (.r (.r (.r (.r (.r (.r (.l (.r (.l (.l (.l (.r .root))))))))))))))),9),((.r (.l (.r (.l (.r (.r (.r .root))))))),10),((.r (.r (.r (.l (.r (.l (.r (.r (.r .root))))))))),11),((.r (.r (.r (.r (.l (.r (.l (.r (.r (.r .root)))))))))),12),((.r (.r (.r (.r (.r (.l (.r (.l (.r (.r (.r .root))))))))))),13),((.r (.r (.l (.r (.l (.r (.r (.r (.r .root))))))))),14),((.r (.r (.r (.l (.r (.l (.r (.r (.r (.r .root)))))))))),15)]
noncomputable def d253:Code:=Option.rec .skip (fun c=>c) Go.Proofs.Tryz.f253.body
noncomputable def q253:Plans:=[]
noncomputable def u253:Cuts:=[(.root,0),((.l (.l (.r (.r (.r (.l (.r (.l (.r (.r (.r (.r (.r .root))))))))))))),1),((.l (.l (.r (.r (.r (.l (.r (.r (.r (.r (.r .root))))))))))),2),((.r (.r (.r (.r (.r (.r (.r .root))))))),3),((.r (.r (.r (.r (.r (.r .root)))))),4),((.r (.r (.r (.r (.r .root))))),5),((.r (.r .root)),6)]
noncomputable def d255:Code:=Option.rec .skip (fun c=>c) Go.Proofs.Tryz.f255.body
noncomputable def q255:Plans:=[]
noncomputable def u255:Cuts:=[(.root,0),((.l (.r (.l (.r .root)))),1)]
noncomputable def d256:Code:=Option.rec .skip (fun c=>c) Go.Proofs.Tryz.f256.body
noncomputable def q256:Plans:=[(5,[0,1,2,3,4,5,6,7,8,9,10,11,12,13,14,15,16]),(8,[0,1,2,3,4,5,6,7,8,9,10,11,12,13,14,15,16,17,18,19,20,21,22,23,24,25])]
noncomputable def u256:Cuts:=[(.root,0),((.l (.r (.l (.r (.r .root))))),1),((.r (.r (.r (.r (.r .root))))),2)]
noncomputable def d257:Code:=Option.rec .skip (fun c=>c) Go.Proofs.Tryz.f257.body
noncomputable def q257:Plans:=[]
noncomputable def u257:Cuts:=[(.root,0)]
noncomputable def d258:Code:=Option.rec .skip (fun c=>c) Go.Proofs.Tryz.f258.body
noncomputable def q258:Plans:=[]
noncomputable def u258:Cuts:=[(.root,0),((.r .root),1)]
noncomputable def d260:Code:=Option.rec .skip (fun c=>c) Go.Proofs.Tryz.f260.body
noncomputable def q260:Plans:=[]
noncomputable def u260:Cuts:=[(.root,0)]
noncomputable def d261:Code:=Option.rec .skip (fun c=>c) Go.Proofs.Tryz.f261.body
noncomputable def q261:Plans:=[(7,[0,1,2,3,4,5,6,8,7,9,10])]
noncomputable def u261:Cuts:=[(.root,0),((.l (.l (.r (.r .root)))),1)]
noncomputable def d262:Code:=Option.rec .skip (fun c=>c) Go.Proofs.Tryz.f262.body
noncomputable def q262:Plans:=[(1,[0,1,2,3,4,5,6,7,8,9,10,11,12,13,14,15,16,17,18,19,20,21,22,23,24])]
noncomputable def u262:Cuts:=[(.root,0)]
noncomputable def d263:Code:=Option.rec .skip (fun c=>c) Go.Proofs.Tryz.f263.body
noncomputable def q263:Plans:=[]
noncomputable def u263:Cuts:=[(.root,0)]
noncomputable def d264:Code:=Option.rec .skip (fun c=>c) Go.Proofs.Tryz.f264.body
noncomputable def q264:Plans:=[]
noncomputable def u264:Cuts:=[(.root,0)]
noncomputable def d266:Code:=Option.rec .skip (fun c=>c) Go.Proofs.Tryz.f266.body
noncomputable def q266:Plans:=[]
noncomputable def u266:Cuts:=[(.root,0)]
noncomputable def d267:Code:=Option.rec .skip (fun c=>c) Go.Proofs.Tryz.f267.body
noncomputable def q267:Plans:=[]
noncomputable def u267:Cuts:=[(.root,0)]
noncomputable def d268:Code:=Option.rec .skip (fun c=>c) Go.Proofs.Tryz.f268.body
noncomputable def q268:Plans:=[(4294967294,[4]),(4294967295,[38])]
noncomputable def lp268_0:LpS:=lpOf q268 (codeAt d268 (.l (.r (.l (.r (.r (.l (.r .root))))))))
noncomputable def u268:Cuts:=[(.root,0),((.lab (.r .root) 0),1)]
noncomputable def d269:Code:=Option.rec .skip (fun c=>c) Go.Proofs.Tryz.f269.body
noncomputable def q269:Plans:=[(6,[0,1,2,3,4,5,6,7,8])]
noncomputable def u269:Cuts:=[(.root,0),((.l (.r (.l (.r (.r .root))))),1)]
noncomputable def d270:Code:=Option.rec .skip (fun c=>c) Go.Proofs.Tryz.f270.body
noncomputable def q270:Plans:=[]
noncomputable def u270:Cuts:=[(.root,0),((.l (.r (.l (.r (.r .root))))),1)]
noncomputable def d271:Code:=Option.rec .skip (fun c=>c) Go.Proofs.Tryz.f271.body
noncomputable def q271:Plans:=[]
noncomputable def u271:Cuts:=[(.root,0)]
noncomputable def d272:Code:=Option.rec .skip (fun c=>c) Go.Proofs.Tryz.f272.body
noncomputable def q272:Plans:=[(4,[0,1,2,4,5,3,6,7])]
noncomputable def u272:Cuts:=[(.root,0)]
noncomputable def d273:Code:=Option.rec .skip (fun c=>c) Go.Proofs.Tryz.f273.body
noncomputable def q273:Plans:=[]
noncomputable def u273:Cuts:=[(.root,0)]
noncomputable def d274:Code:=Option.rec .skip (fun c=>c) Go.Proofs.Tryz.f274.body
noncomputable def q274:Plans:=[]
noncomputable def u274:Cuts:=[(.root,0),((.l (.r (.l (.r .root)))),1)]
noncomputable def d275:Code:=Option.rec .skip (fun c=>c) Go.Proofs.Tryz.f275.body
noncomputable def q275:Plans:=[]
noncomputable def u275:Cuts:=[(.root,0),((.l (.r (.l (.r (.r (.r (.r (.r (.r (.r .root)))))))))),1),((.r (.r (.r (.r (.r .root))))),2)]
noncomputable def d276:Code:=Option.rec .skip (fun c=>c) Go.Proofs.Tryz.f276.body
noncomputable def q276:Plans:=[]
noncomputable def u276:Cuts:=[(.root,0)]
noncomputable def d277:Code:=Option.rec .skip (fun c=>c) Go.Proofs.Tryz.f277.body
noncomputable def q277:Plans:=[]
noncomputable def u277:Cuts:=[(.root,0)]
noncomputable def d278:Code:=Option.rec .skip (fun c=>c) Go.Proofs.Tryz.f278.body
noncomputable def q278:Plans:=[]
noncomputable def u278:Cuts:=[(.root,0)]
noncomputable def d279:Code:=Option.rec .skip (fun c=>c) Go.Proofs.Tryz.f279.body
noncomputable def q279:Plans:=[]
noncomputable def u279:Cuts:=[(.root,0)]
noncomputable def d285:Code:=Option.rec .skip (fun c=>c) Go.Proofs.Tryz.f285.body
noncomputable def q285:Plans:=[]
noncomputable def u285:Cuts:=[(.root,0),((.l (.l (.r (.r (.r (.r (.r .root))))))),1),((.r (.l (.r (.l (.l (.l (.l (.l (.r (.r (.r (.r (.r .root))))))))))))),2),((.r (.l (.r (.l (.r (.r (.r (.r (.r (.l (.l (.l (.l (.r (.r (.r (.r (.r .root)))))))))))))))))),3),((.r (.r (.r (.l (.r (.l (.r (.r (.r (.r (.r (.r (.l (.r (.r (.r (.r (.r (.r (.r (.l (.l (.l (.l (.r (.r (.r (.r (.r .root))))))))))))))))))))))))))))),4),((.r (.l (.r (.l (.r (.r (.r (.r (.r (.r (.l (.r (.r (.r (.r (.r (.r (.r (.l (.l (.l (.l (.r (.r (.r (.r (.r .root))))))))))))))))))))))))))),5),((.r (.r (.r (.l (.r (.r (.r (.r (.r (.r (.r (.l (.l (.l (.l (.r (.r (.r (.r (.r .root)))))))))))))))))))),6),((.r (.r (.r (.r (.r (.r (.l (.l (.l (.l (.r (.r (.r (.r (.r .root))))))))))))))),7),((.r (.r (.r (.r (.r (.l (.l (.l (.l (.r (.r (.r (.r (.r .root)))))))))))))),8),((.r (.r (.r (.r (.l (.l (.l (.l (.r (.r (.r (.r (.r .root))))))))))))),9),((.r (.r (.r (.l (.l (.l (.l (.r (.r (.r (.r (.r .root)))))))))))),10),((.r (.r (.r (.r (.r (.r .root)))))),11)]
noncomputable def d288:Code:=Option.rec .skip (fun c=>c) Go.Proofs.Tryz.f288.body
noncomputable def q288:Plans:=[]
noncomputable def u288:Cuts:=[(.root,0),((.l (.r (.l (.r (.r .root))))),1),((.r .root),2)]
noncomputable def d289:Code:=Option.rec .skip (fun c=>c) Go.Proofs.Tryz.f289.body
noncomputable def q289:Plans:=[]
noncomputable def u289:Cuts:=[(.root,0)]
noncomputable def d290:Code:=Option.rec .skip (fun c=>c) Go.Proofs.Tryz.f290.body
noncomputable def q290:Plans:=[(1,[0,1,2,3,4,5,6,7,8,9,10,11,12,13,14,15,16,17,18,19,20,21,22,23]),(3,[0,1,2,3,4,5,6,7,8,9,10,11])]
noncomputable def u290:Cuts:=[(.root,0),((.l (.r (.l (.r (.r (.r .root)))))),1)]
noncomputable def d291:Code:=Option.rec .skip (fun c=>c) Go.Proofs.Tryz.f291.body
noncomputable def q291:Plans:=[]
noncomputable def u291:Cuts:=[(.root,0)]
noncomputable def d292:Code:=Option.rec .skip (fun c=>c) Go.Proofs.Tryz.f292.body
noncomputable def q292:Plans:=[]
noncomputable def u292:Cuts:=[(.root,0),((.r (.r (.r (.r (.r (.r (.r (.r (.r (.r (.r (.r (.r (.r (.r (.l (.r (.l (.r (.r (.r .root))))))))))))))))))))),1),((.r (.r (.r (.r (.r (.r (.r (.r (.r (.r (.r (.r (.r (.l (.r (.l (.r (.r (.r .root))))))))))))))))))),2)]
noncomputable def d293:Code:=Option.rec .skip (fun c=>c) Go.Proofs.Tryz.f293.body
noncomputable def q293:Plans:=[]
noncomputable def u293:Cuts:=[(.root,0)]
noncomputable def d294:Code:=Option.rec .skip (fun c=>c) Go.Proofs.Tryz.f294.body
noncomputable def q294:Plans:=[]
noncomputable def u294:Cuts:=[(.root,0)]
noncomputable def d295:Code:=Option.rec .skip (fun c=>c) Go.Proofs.Tryz.f295.body
noncomputable def q295:Plans:=[]
noncomputable def u295:Cuts:=[(.root,0)]
noncomputable def d296:Code:=Option.rec .skip (fun c=>c) Go.Proofs.Tryz.f296.body
noncomputable def q296:Plans:=[]
noncomputable def u296:Cuts:=[(.root,0),((.l (.r (.l (.r .root)))),1)]
noncomputable def d297:Code:=Option.rec .skip (fun c=>c) Go.Proofs.Tryz.f297.body
noncomputable def q297:Plans:=[]
noncomputable def u297:Cuts:=[(.root,0),((.r (.l (.r (.l (.r (.r (.r .root))))))),1),((.l (.r (.l (.r (.r (.r (.r .root))))))),2),((.r (.r (.l (.l (.r (.r (.l (.l (.r (.l (.r (.r (.r (.r .root)))))))))))))),3),((.l (.r (.l (.r (.r (.r (.r (.r (.r (.r (.r .root))))))))))),4),((.r (.r (.r (.r .root)))),5)]
noncomputable def d298:Code:=Option.rec .skip (fun c=>c) Go.Proofs.Tryz.f298.body
noncomputable def q298:Plans:=[]
noncomputable def u298:Cuts:=[(.root,0),((.l (.l (.r .root))),1)]
noncomputable def d299:Code:=Option.rec .skip (fun c=>c) Go.Proofs.Tryz.f299.body
noncomputable def q299:Plans:=[]
noncomputable def u299:Cuts:=[(.root,0),((.l (.l (.r .root))),1)]
noncomputable def d300:Code:=Option.rec .skip (fun c=>c) Go.Proofs.Tryz.f300.body
noncomputable def q300:Plans:=[]
noncomputable def u300:Cuts:=[(.root,0),((.l (.r (.l (.r .root)))),1)]
noncomputable def d301:Code:=Option.rec .skip (fun c=>c) Go.Proofs.Tryz.f301.body
noncomputable def q301:Plans:=[]
structure J301 where
  a0:Nat→Nat→AV→H→Prop
  a1:Nat→Nat→AV→H→Prop
noncomputable def s301_0 (_c:Caller Prop FT) (_k:KV) (J:J301) (l_0:Nat) (c_0:Nat) (v_1:AV) (h:H):Prop:=
 J.a1 l_0 c_0 v_1 h
noncomputable def s301_1 (c:Caller Prop FT) (k:KV) (J:J301) (l_0:Nat) (c_0:Nat) (v_1:AV) (h:H):Prop:=
 cnd (iblt (Int.ofNat 0) (Int.ofNat l_0))
 (idxS l_0 c_0 0 fun m1=>
 c (.func 329) [v_1,(.int .u8 (Int.ofNat m1))] h fun v2 h3=>
 asB v2 fun b4=>
 cnd (bnot b4)
 (k (.str l_0 c_0) h3)
 (cutS l_0 c_0 1 l_0 fun l5 c6=>
 J.a1 l5 c6 v_1 h3))
 (k (.str l_0 c_0) h)
noncomputable def z301:J301:=⟨fun _ _ _ _=>False,fun _ _ _ _=>False⟩
noncomputable def r301 (c:Caller Prop FT) (k:KV) (m:Nat):J301:=Nat.rec z301 (fun _ J=>⟨s301_0 c k J,s301_1 c k J⟩) m
noncomputable def f301 (J:J301):Jump:=fun L f h=>match L with
  |0=>asS (f 0) fun l_0 c_0=>J.a0 l_0 c_0 (f 1) h
  |1=>asS (f 0) fun l_0 c_0=>J.a1 l_0 c_0 (f 1) h
  |_=>False
noncomputable def u301:Cuts:=[(.root,0),((.l (.l (.r .root))),1)]
noncomputable def d302:Code:=Option.rec .skip (fun c=>c) Go.Proofs.Tryz.f302.body
noncomputable def q302:Plans:=[]
structure J302 where
  a0:Nat→Nat→AV→H→Prop
  a1:Nat→Nat→AV→H→Prop
noncomputable def s302_0 (_c:Caller Prop FT) (_k:KV) (J:J302) (l_0:Nat) (c_0:Nat) (v_1:AV) (h:H):Prop:=
 J.a1 l_0 c_0 v_1 h
noncomputable def s302_1 (c:Caller Prop FT) (k:KV) (J:J302) (l_0:Nat) (c_0:Nat) (v_1:AV) (h:H):Prop:=
 cnd (iblt (Int.ofNat 0) (Int.ofNat l_0))
 (fI (wrap .i64 (isub (Int.ofNat l_0) (Int.ofNat 1))) fun n1=>
 natI n1 fun m2=>
 idxS l_0 c_0 m2 fun m3=>
 c (.func 329) [v_1,(.int .u8 (Int.ofNat m3))] h fun v4 h5=>
 asB v4 fun b6=>
 cnd (bnot b6)
 (k (.str l_0 c_0) h5)
 (fI (wrap .i64 (isub (Int.ofNat l_0) (Int.ofNat 1))) fun n7=>
 natI n7 fun m8=>
 cutS l_0 c_0 0 m8 fun l9 c10=>
 J.a1 l9 c10 v_1 h5))
 (k (.str l_0 c_0) h)
noncomputable def z302:J302:=⟨fun _ _ _ _=>False,fun _ _ _ _=>False⟩
noncomputable def r302 (c:Caller Prop FT) (k:KV) (m:Nat):J302:=Nat.rec z302 (fun _ J=>⟨s302_0 c k J,s302_1 c k J⟩) m
noncomputable def f302 (J:J302):Jump:=fun L f h=>match L with
  |0=>asS (f 0) fun l_0 c_0=>J.a0 l_0 c_0 (f 1) h
  |1=>asS (f 0) fun l_0 c_0=>J.a1 l_0 c_0 (f 1) h
  |_=>False
noncomputable def u302:Cuts:=[(.root,0),((.l (.l (.r .root))),1)]
noncomputable def d303:Code:=Option.rec .skip (fun c=>c) Go.Proofs.Tryz.f303.body
noncomputable def q303:Plans:=[]
noncomputable def u303:Cuts:=[(.root,0),((.l (.l (.r .root))),1)]
noncomputable def d304:Code:=Option.rec .skip (fun c=>c) Go.Proofs.Tryz.f304.body
noncomputable def q304:Plans:=[]
noncomputable def u304:Cuts:=[(.root,0),((.l (.l (.r .root))),1),((.r (.r (.l (.r (.l (.l (.l (.r .root)))))))),2)]
noncomputable def d305:Code:=Option.rec .skip (fun c=>c) Go.Proofs.Tryz.f305.body
noncomputable def q305:Plans:=[]
noncomputable def u305:Cuts:=[(.root,0),((.l (.r (.l (.r (.r (.r (.l (.r (.l (.r (.r .root))))))))))),1),((.r (.r (.r (.r (.r (.l (.r (.l (.r (.r .root)))))))))),2),((.r (.r (.l (.r (.l (.r (.r .root))))))),3)]
noncomputable def d306:Code:=Option.rec .skip (fun c=>c) Go.Proofs.Tryz.f306.body
noncomputable def q306:Plans:=[]
noncomputable def u306:Cuts:=[(.root,0)]
noncomputable def d307:Code:=Option.rec .skip (fun c=>c) Go.Proofs.Tryz.f307.body
noncomputable def q307:Plans:=[]
structure J307 where
  a0:Nat→Nat→Nat→Nat→H→Prop
noncomputable def s307_0 (c:Caller Prop FT) (k:KV) (_J:J307) (l_0:Nat) (c_0:Nat) (l_1:Nat) (c_1:Nat) (h:H):Prop:=
 c (.func 337) [(.str l_0 c_0),(.str l_1 c_1)] h fun v1 h2=>
 asS v1 fun l3 _=>
 fI (wrap .i64 (isub (Int.ofNat l_0) (Int.ofNat l3))) fun n5=>
 k (.int .i64 n5) h2
noncomputable def z307:J307:=⟨fun _ _ _ _ _=>False⟩
noncomputable def r307 (c:Caller Prop FT) (k:KV) (m:Nat):J307:=Nat.rec z307 (fun _ J=>⟨s307_0 c k J⟩) m
noncomputable def f307 (J:J307):Jump:=fun L f h=>match L with
  |0=>asS (f 0) fun l_0 c_0=>asS (f 1) fun l_1 c_1=>J.a0 l_0 c_0 l_1 c_1 h
  |_=>False
noncomputable def u307:Cuts:=[(.root,0)]
noncomputable def d308:Code:=Option.rec .skip (fun c=>c) Go.Proofs.Tryz.f308.body
noncomputable def q308:Plans:=[]
noncomputable def u308:Cuts:=[(.root,0),((.l (.r (.l (.r (.r .root))))),1),((.l (.r (.l (.r (.r (.r (.r (.l (.r (.l (.r (.r (.r .root))))))))))))),2),((.r (.r (.l (.r (.r (.l (.l (.r (.l (.l (.r (.l (.r (.r (.r (.r (.l (.r (.l (.r (.r (.r .root)))))))))))))))))))))),3),((.r (.r (.l (.l (.r (.l (.r (.r (.r (.r (.l (.r (.l (.r (.r (.r .root)))))))))))))))),4),((.r (.r (.r .root))),5)]
noncomputable def d309:Code:=Option.rec .skip (fun c=>c) Go.Proofs.Tryz.f309.body
noncomputable def q309:Plans:=[(6,[0,1,2,3,4,5,6]),(7,[0,1,2,3,4,5,6,7,8]),(14,[0,1,2,3,4,5,6,7,8,9,10]),(31,[0,1,2,3,4,5,6,7,8,9,10])]
noncomputable def u309:Cuts:=[(.root,0),((.l (.r (.l (.l (.r (.r (.r (.l (.r .root))))))))),1),((.l (.l (.r (.r (.r (.r (.l (.r (.r (.r (.r (.r (.r (.l (.r .root))))))))))))))),2),((.l (.r (.l (.r (.l (.l (.r (.l (.l (.l (.r (.r (.r (.r (.l (.r (.r (.r (.r (.r (.r (.l (.r .root))))))))))))))))))))))),3),((.r (.l (.l (.r (.l (.l (.l (.r (.r (.r (.r (.l (.r (.r (.r (.r (.r (.r (.l (.r .root)))))))))))))))))))),4),((.lab (.l (.r (.l (.l (.l (.r (.r (.r (.r (.l (.r (.r (.r (.r (.r (.r (.l (.r .root)))))))))))))))))) 0),5),((.l (.r (.r (.r (.l (.r (.l (.r (.r (.r (.r (.r (.r (.r (.l (.r (.r (.r (.r (.r (.r (.l (.r .root))))))))))))))))))))))),6),((.l (.r (.l (.l (.r (.l (.l (.r (.l (.l (.r (.r (.r (.l (.r (.l (.r (.r (.r (.r (.r (.r (.r (.l (.r (.r (.r (.r (.r (.r (.l (.r .root)))))))))))))))))))))))))))))))),7),((.r (.r (.l (.l (.r (.r (.r (.l (.r (.l (.r (.r (.r (.r (.r (.r (.r (.l (.r (.r (.r (.r (.r (.r (.l (.r .root)))))))))))))))))))))))))),8),((.lab (.r (.l (.r (.r (.r (.r (.r (.r (.r (.l (.r (.r (.r (.r (.r (.r (.l (.r .root)))))))))))))))))) 2),9),((.l (.r (.lab (.r (.l (.r (.r (.r (.r (.r (.r (.r (.l (.r (.r (.r (.r (.r (.r (.l (.r .root)))))))))))))))))) 2))),10),((.l (.r (.l (.l (.r (.l (.l (.r (.l (.l (.r (.lab (.r (.l (.r (.r (.r (.r (.r (.r (.r (.l (.r (.r (.r (.r (.r (.r (.l (.r .root)))))))))))))))))) 2)))))))))))),11),((.r (.r (.l (.l (.r (.lab (.r (.l (.r (.r (.r (.r (.r (.r (.r (.l (.r (.r (.r (.r (.r (.r (.l (.r .root)))))))))))))))))) 2)))))),12),((.lab (.r (.r (.r (.r (.r (.r (.l (.r .root)))))))) 1),13),((.l (.r (.r (.r (.l (.r (.l (.r (.lab (.r (.r (.r (.r (.r (.r (.l (.r .root)))))))) 1))))))))),14),((.l (.r (.l (.l (.r (.l (.l (.r (.l (.l (.r (.r (.r (.l (.r (.l (.r (.lab (.r (.r (.r (.r (.r (.r (.l (.r .root)))))))) 1)))))))))))))))))),15),((.r (.r (.l (.l (.r (.r (.r (.l (.r (.l (.r (.lab (.r (.r (.r (.r (.r (.r (.l (.r .root)))))))) 1)))))))))))),16),((.lab (.r (.l (.r (.lab (.r (.r (.r (.r (.r (.r (.l (.r .root)))))))) 1)))) 2),17),((.l (.r (.lab (.r (.l (.r (.lab (.r (.r (.r (.r (.r (.r (.l (.r .root)))))))) 1)))) 2))),18),((.l (.r (.l (.l (.r (.l (.l (.r (.l (.l (.r (.lab (.r (.l (.r (.lab (.r (.r (.r (.r (.r (.r (.l (.r .root)))))))) 1)))) 2)))))))))))),19),((.r (.r (.l (.l (.r (.lab (.r (.l (.r (.lab (.r (.r (.r (.r (.r (.r (.l (.r .root)))))))) 1)))) 2)))))),20),((.r (.l (.l (.r (.r (.r (.r (.r (.r (.r (.l (.r (.r (.r (.r (.r (.r (.l (.r .root))))))))))))))))))),21),((.r (.r (.l (.r (.l (.r (.r (.r (.r (.r (.r (.r (.l (.r (.r (.r (.r (.r (.r (.l (.r .root))))))))))))))))))))),22)]
noncomputable def d310:Code:=Option.rec .skip (fun c=>c) Go.Proofs.Tryz.f310.body
noncomputable def q310:Plans:=[]
noncomputable def u310:Cuts:=[(.root,0)]
noncomputable def d311:Code:=Option.rec .skip (fun c=>c) Go.Proofs.Tryz.f311.body
noncomputable def q311:Plans:=[]
noncomputable def u311:Cuts:=[(.root,0)]
noncomputable def d321:Code:=Option.rec .skip (fun c=>c) Go.Proofs.Tryz.f321.body
noncomputable def q321:Plans:=[(2,[0,1,2,3,4,5,6,7,8,9]),(3,[0,1,2,3,4,5,6,7,8,9,10,11])]
noncomputable def u321:Cuts:=[(.root,0),((.r (.r (.r .root))),1)]
noncomputable def d322:Code:=Option.rec .skip (fun c=>c) Go.Proofs.Tryz.f322.body
noncomputable def q322:Plans:=[]
noncomputable def u322:Cuts:=[(.root,0)]
noncomputable def d323:Code:=Option.rec .skip (fun c=>c) Go.Proofs.Tryz.f323.body
noncomputable def q323:Plans:=[]
noncomputable def u323:Cuts:=[(.root,0)]
noncomputable def d324:Code:=Option.rec .skip (fun c=>c) Go.Proofs.Tryz.f324.body
noncomputable def q324:Plans:=[]
noncomputable def u324:Cuts:=[(.root,0)]
noncomputable def d325:Code:=Option.rec .skip (fun c=>c) Go.Proofs.Tryz.f325.body
noncomputable def q325:Plans:=[]
noncomputable def u325:Cuts:=[(.root,0),((.r (.r (.r .root))),1)]
noncomputable def d326:Code:=Option.rec .skip (fun c=>c) Go.Proofs.Tryz.f326.body
noncomputable def q326:Plans:=[]
noncomputable def u326:Cuts:=[(.root,0)]
noncomputable def d327:Code:=Option.rec .skip (fun c=>c) Go.Proofs.Tryz.f327.body
noncomputable def q327:Plans:=[(3,[0,1,2,3,4,5,6,7,8,9,10,11,12,13,14,15])]
noncomputable def u327:Cuts:=[(.root,0),((.l (.r .root)),1)]
noncomputable def d328:Code:=Option.rec .skip (fun c=>c) Go.Proofs.Tryz.f328.body
noncomputable def q328:Plans:=[(3,[0,1,2,3,4,5,6,7,8,9,10,11,12])]
noncomputable def u328:Cuts:=[(.root,0),((.r (.r .root)),1)]
noncomputable def d329:Code:=Option.rec .skip (fun c=>c) Go.Proofs.Tryz.f329.body
noncomputable def q329:Plans:=[]
structure J329 where
  a0:AV→Int→H→Prop
noncomputable def s329_0 (_c:Caller Prop FT) (k:KV) (_J:J329) (v_0:AV) (n_1:Int) (h:H):Prop:=
 oK (exNil v_0 h) fun v1 h2=>
 oK (exIndexAddr env 417 v1 (natOf (.int .u8 n_1)) h2) fun v3 h4=>
 ld1 v3 h4 fun v5=>
 asB v5 fun b6=>
 k (.bool b6) h4
noncomputable def z329:J329:=⟨fun _ _ _=>False⟩
noncomputable def r329 (c:Caller Prop FT) (k:KV) (m:Nat):J329:=Nat.rec z329 (fun _ J=>⟨s329_0 c k J⟩) m
noncomputable def f329 (J:J329):Jump:=fun L f h=>match L with
  |0=>asI .u8 (f 1) fun n_1=>J.a0 (f 0) n_1 h
  |_=>False
noncomputable def u329:Cuts:=[(.root,0)]
noncomputable def d330:Code:=Option.rec .skip (fun c=>c) Go.Proofs.Tryz.f330.body
noncomputable def q330:Plans:=[]
noncomputable def u330:Cuts:=[(.root,0)]
noncomputable def d331:Code:=Option.rec .skip (fun c=>c) Go.Proofs.Tryz.f331.body
noncomputable def q331:Plans:=[]
noncomputable def u331:Cuts:=[(.root,0),((.l (.r (.l (.r (.r (.r (.r (.r (.r (.r .root)))))))))),1),((.r (.r (.r (.r (.r (.r (.r (.r (.r .root))))))))),2),((.r (.r (.r (.r (.r (.r (.r (.r .root)))))))),3)]
noncomputable def d332:Code:=Option.rec .skip (fun c=>c) Go.Proofs.Tryz.f332.body
noncomputable def q332:Plans:=[]
noncomputable def u332:Cuts:=[(.root,0),((.r (.r (.r (.r (.r (.r (.r (.r (.r (.r (.r (.r (.r .root))))))))))))),1),((.r (.r (.r (.r (.r (.r (.r (.r .root)))))))),2),((.r (.r (.r (.r .root)))),3)]
noncomputable def d333:Code:=Option.rec .skip (fun c=>c) Go.Proofs.Tryz.f333.body
noncomputable def q333:Plans:=[(1,[0,1,3,2,4,5,6])]
noncomputable def u333:Cuts:=[(.root,0)]
noncomputable def d334:Code:=Option.rec .skip (fun c=>c) Go.Proofs.Tryz.f334.body
noncomputable def q334:Plans:=[(1,[0,1,3,2,4,5,6])]
noncomputable def u334:Cuts:=[(.root,0)]
noncomputable def d335:Code:=Option.rec .skip (fun c=>c) Go.Proofs.Tryz.f335.body
noncomputable def q335:Plans:=[]
noncomputable def u335:Cuts:=[(.root,0)]
noncomputable def d336:Code:=Option.rec .skip (fun c=>c) Go.Proofs.Tryz.f336.body
noncomputable def q336:Plans:=[]
noncomputable def u336:Cuts:=[(.root,0)]
noncomputable def d337:Code:=Option.rec .skip (fun c=>c) Go.Proofs.Tryz.f337.body
noncomputable def q337:Plans:=[]
structure J337 where
  a0:Nat→Nat→Nat→Nat→H→Prop
noncomputable def s337_0 (c:Caller Prop FT) (k:KV) (_J:J337) (l_0:Nat) (c_0:Nat) (l_1:Nat) (c_1:Nat) (h:H):Prop:=
 joinB (fun k1=>gate false (strEq l_0 c_0 0 0)
 (k1 (strEq l_1 c_1 0 0) h)
 (k1 true h)) fun b3 h2=>
 cnd b3
 (k (.str l_0 c_0) h2)
 (joinB (fun k4=>gate true (ibeq (Int.ofNat l_1) (Int.ofNat 1))
 (idxS l_1 c_1 0 fun m7=>
 k4 (iblt (Int.ofNat m7) (Int.ofNat 128)) h2)
 (k4 false h2)) fun b6 h5=>
 cnd b6
 (idxS l_1 c_1 0 fun m8=>
 c (.func 298) [(.str l_0 c_0),(.int .u8 (Int.ofNat m8))] h5 fun v9 h10=>
 asS v9 fun l11 c12=>
 k (.str l11 c12) h10)
 (c (.func 300) [(.str l_1 c_1)] h5 fun v13 h14=>
 ext 0 v13 fun v15=>
 ext 1 v13 fun v16=>
 asB v16 fun b17=>
 Hp.newK h14 ob417 fun p18 h19=>
 stn 256 (.ptr p18 0) v15 h19 fun h20=>
 cnd b17
 (c (.func 301) [(.str l_0 c_0),(.ptr p18 0)] h20 fun v21 h22=>
 asS v21 fun l23 c24=>
 k (.str l23 c24) h22)
 (c (.func 303) [(.str l_0 c_0),(.str l_1 c_1)] h20 fun v25 h26=>
 asS v25 fun l27 c28=>
 k (.str l27 c28) h26)))
noncomputable def z337:J337:=⟨fun _ _ _ _ _=>False⟩
noncomputable def r337 (c:Caller Prop FT) (k:KV) (m:Nat):J337:=Nat.rec z337 (fun _ J=>⟨s337_0 c k J⟩) m
noncomputable def f337 (J:J337):Jump:=fun L f h=>match L with
  |0=>asS (f 0) fun l_0 c_0=>asS (f 1) fun l_1 c_1=>J.a0 l_0 c_0 l_1 c_1 h
  |_=>False
noncomputable def u337:Cuts:=[(.root,0)]
noncomputable def d338:Code:=Option.rec .skip (fun c=>c) Go.Proofs.Tryz.f338.body
noncomputable def q338:Plans:=[]
noncomputable def u338:Cuts:=[(.root,0),((.l (.r (.l (.r (.r .root))))),1),((.r (.r (.r (.r (.r (.r (.r (.r (.l (.r (.r (.l (.l (.r (.l (.r (.r .root))))))))))))))))),2),((.r (.r (.r (.r (.r (.l (.r (.r (.l (.l (.r (.l (.r (.r .root)))))))))))))),3),((.l (.r (.l (.r (.r (.r (.r .root))))))),4),((.r (.r (.r .root))),5)]
noncomputable def d339:Code:=Option.rec .skip (fun c=>c) Go.Proofs.Tryz.f339.body
noncomputable def q339:Plans:=[]
noncomputable def u339:Cuts:=[(.root,0)]
noncomputable def d340:Code:=Option.rec .skip (fun c=>c) Go.Proofs.Tryz.f340.body
noncomputable def q340:Plans:=[]
noncomputable def u340:Cuts:=[(.root,0)]
noncomputable def d343:Code:=Option.rec .skip (fun c=>c) Go.Proofs.Tryz.f343.body
noncomputable def q343:Plans:=[(5,[0,1,2,3,4])]
noncomputable def u343:Cuts:=[(.root,0),((.r (.r (.r (.r (.r .root))))),1)]
noncomputable def d344:Code:=Option.rec .skip (fun c=>c) Go.Proofs.Tryz.f344.body
noncomputable def q344:Plans:=[]
noncomputable def u344:Cuts:=[(.root,0),((.l (.r (.l (.r (.l (.r (.l (.r (.r (.r (.r (.r .root)))))))))))),1),((.r (.r (.r (.r (.r (.r .root)))))),2)]
noncomputable def d345:Code:=Option.rec .skip (fun c=>c) Go.Proofs.Tryz.f345.body
noncomputable def q345:Plans:=[(0,[0,1,2,3,4,5,6,7,9,10,11,12,13,8,14,15])]
noncomputable def u345:Cuts:=[(.root,0)]
noncomputable def d346:Code:=Option.rec .skip (fun c=>c) Go.Proofs.Tryz.f346.body
noncomputable def q346:Plans:=[]
noncomputable def u346:Cuts:=[(.root,0)]
noncomputable def d347:Code:=Option.rec .skip (fun c=>c) Go.Proofs.Tryz.f347.body
noncomputable def q347:Plans:=[]
noncomputable def u347:Cuts:=[(.root,0),((.l (.r (.l (.r (.r (.r (.r (.r (.r (.r (.r (.r (.r (.r .root)))))))))))))),1),((.r (.r (.r (.l (.l (.r (.r (.l (.l (.r (.l (.r (.r (.r (.r (.r (.r (.r (.r (.r (.r (.r .root)))))))))))))))))))))),2),((.r (.r (.r (.r (.r (.r (.r (.r .root)))))))),3),((.r (.r (.r (.r (.r (.r .root)))))),4),((.r (.r (.r (.r (.r .root))))),5)]
noncomputable def d348:Code:=Option.rec .skip (fun c=>c) Go.Proofs.Tryz.f348.body
noncomputable def q348:Plans:=[]
noncomputable def u348:Cuts:=[(.root,0)]
noncomputable def d349:Code:=Option.rec .skip (fun c=>c) Go.Proofs.Tryz.f349.body
noncomputable def q349:Plans:=[]
noncomputable def u349:Cuts:=[(.root,0)]
noncomputable def d350:Code:=Option.rec .skip (fun c=>c) Go.Proofs.Tryz.f350.body
noncomputable def q350:Plans:=[]
noncomputable def u350:Cuts:=[(.root,0)]
noncomputable def d351:Code:=Option.rec .skip (fun c=>c) Go.Proofs.Tryz.f351.body
noncomputable def q351:Plans:=[]
noncomputable def u351:Cuts:=[(.root,0)]
noncomputable def d352:Code:=Option.rec .skip (fun c=>c) Go.Proofs.Tryz.f352.body
noncomputable def q352:Plans:=[]
noncomputable def u352:Cuts:=[(.root,0)]
noncomputable def d353:Code:=Option.rec .skip (fun c=>c) Go.Proofs.Tryz.f353.body
noncomputable def q353:Plans:=[]
noncomputable def u353:Cuts:=[(.root,0)]
noncomputable def d355:Code:=Option.rec .skip (fun c=>c) Go.Proofs.Tryz.f355.body
noncomputable def q355:Plans:=[]
noncomputable def u355:Cuts:=[(.root,0)]
noncomputable def d356:Code:=Option.rec .skip (fun c=>c) Go.Proofs.Tryz.f356.body
noncomputable def q356:Plans:=[(3,[0,1,2,3]),(5,[0,1,2,3,4,5,6])]
noncomputable def u356:Cuts:=[(.root,0),((.r (.r .root)),1)]
noncomputable def d357:Code:=Option.rec .skip (fun c=>c) Go.Proofs.Tryz.f357.body
noncomputable def q357:Plans:=[]
noncomputable def u357:Cuts:=[(.root,0)]
noncomputable def d358:Code:=Option.rec .skip (fun c=>c) Go.Proofs.Tryz.f358.body
noncomputable def q358:Plans:=[]
noncomputable def u358:Cuts:=[(.root,0)]
noncomputable def d360:Code:=Option.rec .skip (fun c=>c) Go.Proofs.Tryz.f360.body
noncomputable def q360:Plans:=[]
noncomputable def u360:Cuts:=[(.root,0)]
noncomputable def d361:Code:=Option.rec .skip (fun c=>c) Go.Proofs.Tryz.f361.body
noncomputable def q361:Plans:=[]
noncomputable def u361:Cuts:=[(.root,0),((.l (.l (.r (.r (.r (.r (.r (.r .root)))))))),1),((.r (.r (.l (.l (.l (.r (.r (.r (.r (.r (.r .root))))))))))),2),((.r (.r (.r (.r (.r (.r .root)))))),3),((.r (.r (.r (.r .root)))),4)]
noncomputable def d362:Code:=Option.rec .skip (fun c=>c) Go.Proofs.Tryz.f362.body
noncomputable def q362:Plans:=[]
noncomputable def u362:Cuts:=[(.root,0)]
noncomputable def d363:Code:=Option.rec .skip (fun c=>c) Go.Proofs.Tryz.f363.body
noncomputable def q363:Plans:=[]
noncomputable def u363:Cuts:=[(.root,0)]
noncomputable def d364:Code:=Option.rec .skip (fun c=>c) Go.Proofs.Tryz.f364.body
noncomputable def q364:Plans:=[]
noncomputable def u364:Cuts:=[(.root,0),((.r (.r (.r (.l (.r (.r .root)))))),1)]
noncomputable def d365:Code:=Option.rec .skip (fun c=>c) Go.Proofs.Tryz.f365.body
noncomputable def q365:Plans:=[]
noncomputable def u365:Cuts:=[(.root,0),((.l (.l (.r (.r (.r .root))))),1)]
noncomputable def d366:Code:=Option.rec .skip (fun c=>c) Go.Proofs.Tryz.f366.body
noncomputable def q366:Plans:=[(3,[0,1,2,3,4,5,6,7,8,9,10,11,12,13,14,15,16,17,18])]
noncomputable def u366:Cuts:=[(.root,0)]
end Go.Den
