/-
  A part of the proof: the functions, in pieces.
-/
import Derived.Test.YtbjfkibkjjmdnaaGreatDoorRunA
namespace Go.Den
set_option maxRecDepth 100000
noncomputable def d3 : Code := Option.rec .skip (fun c => c) Go.Proofs.Tryz.f3.body
noncomputable def q3 : Plans := [(7, [0, 1, 2, 3, 4, 9, 5, 6, 7, 8, 10, 11, 12, 13]), (23, [0, 1, 2, 3, 5, 4, 6, 7, 8, 9, 10, 11, 13, 12, 14, 15, 16, 17, 18, 19, 20, 22, 21, 23, 24, 25, 26, 27, 28, 29, 30, 31, 32, 33, 34, 35, 36, 37, 38, 39, 40, 41, 42, 43]), (28, [0, 1, 2, 3, 4, 5, 6, 7, 8, 9, 10, 11, 12, 13, 14, 15, 16, 17, 18, 19, 20, 21, 22, 23])]
structure J3 where
  a0 : Int → Int → H → Prop
  a1 : Int → Int → Nat → Nat → Int → H → Prop
  a2 : Int → Int → Nat → Nat → Int → H → Prop
  a3 : Int → AV → AV → AV → Int → H → Prop
  a4 : Int → AV → AV → AV → H → Prop
noncomputable def s3_0 (c : Caller Prop FT) (k : KV) (J : J3) (n_0 : Int) (n_1 : Int) (h : H) : Prop :=
 joinB (fun k1 => gate false (iblt n_0 (Int.ofNat 1))
 (k1 (iblt (Int.ofNat 15) n_0) h)
 (k1 true h)) fun b3 h2 =>
 joinB (fun k4 => gate false b3
 (k4 (iblt n_1 (Int.ofNat 0)) h2)
 (k4 true h2)) fun b6 h5 =>
 joinB (fun k7 => gate false b6
 (k7 (iblt (Int.ofNat 10) n_1) h5)
 (k7 true h5)) fun b9 h8 =>
 cnd b9
 (c (.func 6) [] h8 fun v10 h11 =>
 asB v10 fun b12 =>
 k (.bool b12) h11)
 (J.a1 n_0 n_1 18 892349613372418830741907968940361973589027 (Int.ofNat 1) h8)
noncomputable def s3_1 (c : Caller Prop FT) (_k : KV) (J : J3) (n_0 : Int) (n_1 : Int) (l_5 : Nat) (c_5 : Nat) (n_6 : Int) (h : H) : Prop :=
 cnd (iblt n_6 n_0)
 (catS l_5 c_5 9 2013029497415171138595 fun l13 c14 =>
 fI (wrap .i64 (iadd (Int.ofNat 97) n_6)) fun n15 =>
 fI (wrap .u8 n15) fun n16 =>
 oK (withElem env 23 (fun e ei => exBuildSlice 1 [(0, (.int .u8 n16))] h e ei)) fun v17 h18 =>
 oK (convA env h18 23 9 v17) fun v19 h20 =>
 asS v19 fun l21 c22 =>
 catS l13 c14 l21 c22 fun l23 c24 =>
 catS l23 c24 4 539582760 fun l25 c26 =>
 c (.func 7) [(.int .i64 n_6)] h20 fun v27 h28 =>
 asS v27 fun l29 c30 =>
 oK (convA env h28 23 9 v17) fun v31 _ =>
 asS v31 fun l33 c34 =>
 eqC (.str l33 c34) (.str l21 c22) <|
 catS l25 c26 l29 c30 fun l35 c36 =>
 catS l35 c36 4 170484008 fun l37 c38 =>
 fI (wrap .i64 (iadd n_6 (Int.ofNat 1))) fun n39 =>
 J.a1 n_0 n_1 l37 c38 n39 h28)
 (J.a2 n_0 n_1 l_5 c_5 (Int.ofNat 0) h)
noncomputable def s3_2 (c : Caller Prop FT) (k : KV) (J : J3) (n_0 : Int) (n_1 : Int) (l_5 : Nat) (c_5 : Nat) (n_7 : Int) (h : H) : Prop :=
 cnd (iblt n_7 n_1)
 (catS l_5 c_5 1 10 fun l40 c41 =>
 fI (wrap .i64 (iadd n_7 (Int.ofNat 1))) fun n42 =>
 J.a2 n_0 n_1 l40 c41 n42 h)
 (c (.func 7) [(.int .i64 n_0)] h fun v43 h44 =>
 asS v43 fun l45 c46 =>
 catS l_5 c_5 l45 c46 fun l47 c48 =>
 catS l47 c48 4 170488104 fun l49 c50 =>
 oK (exBuild env (env.ty 30) [(0, (.str 3 6499937)), (1, (.str l49 c50))] h44) fun v51 h52 =>
 oK (withElem env 31 (fun e ei => exBuildSlice 1 [(0, v51)] h52 e ei)) fun v53 h54 =>
 c (.func 8) [.nils, v53] h54 fun v55 h56 =>
 ext 0 v55 fun v57 =>
 ext 1 v55 fun _ =>
 ext 2 v55 fun v59 =>
 asB v59 fun b60 =>
 cnd (bnot b60)
 (k (.bool false) h56)
 (oK (exBuild env (env.ty 39) [(1, (.int .i64 (Int.ofNat 1))), (2, (.int .i64 (Int.ofNat 2000)))] h56) fun v61 h62 =>
 c (.func 9) [v57, (.str 3 6499937), v61] h62 fun v63 h64 =>
 Hp.newK h64 ob36 fun p65 h66 =>
 stn 5 (.ptr p65 0) v63 h66 fun h67 =>
 fAddr 0 (.ptr p65 0) fun v68 =>
 ld1 v68 h67 fun v69 =>
 lenV v69 fun m70 =>
 joinB (fun k71 => gate false (bnot (ibeq (Int.ofNat m70) (Int.ofNat 3)))
 (fAddr 1 (.ptr p65 0) fun v74 =>
 ld1 v74 h67 fun v75 =>
 lenV v75 fun m76 =>
 k71 (bnot (ibeq (Int.ofNat m76) (Int.ofNat 0))) h67)
 (k71 true h67)) fun b73 h72 =>
 cnd b73
 (k (.bool false) h72)
 (fI (wrap .i64 (iadd (Int.ofNat l_5) (Int.ofNat l45))) fun n77 =>
 oK (exBuild env (env.ty 41) [(0, (.str 3 6499937)), (1, (.int .i64 (Int.ofNat l_5))), (2, (.int .i64 n77))] h72) fun v78 h79 =>
 Hp.newK h79 ob41 fun p80 h81 =>
 stn 3 (.ptr p80 0) v78 h81 fun h82 =>
 fI (wrap .i64 (iadd (Int.ofNat l_5) (Int.ofNat l45))) fun n83 =>
 fI (wrap .i64 (iadd n83 (Int.ofNat 1))) fun n84 =>
 fI (wrap .i64 (iadd (Int.ofNat l_5) (Int.ofNat l45))) fun n85 =>
 fI (wrap .i64 (iadd n85 (Int.ofNat 2))) fun n86 =>
 oK (exBuild env (env.ty 41) [(0, (.str 3 6499937)), (1, (.int .i64 n84)), (2, (.int .i64 n86))] h82) fun v87 h88 =>
 Hp.newK h88 ob41 fun p89 h90 =>
 stn 3 (.ptr p89 0) v87 h90 fun h91 =>
 J.a4 n_0 (.ptr p65 0) (.ptr p80 0) (.ptr p89 0) h91)))
noncomputable def s3_3 (c : Caller Prop FT) (k : KV) (J : J3) (n_0 : Int) (v_13 : AV) (v_14 : AV) (v_15 : AV) (n_16 : Int) (h : H) : Prop :=
 cnd (iblt n_16 n_0)
 (fAddr 0 v_13 fun v92 =>
 ld1 v92 h fun v93 =>
 elemA 8 0 v93 fun v94 =>
 fAddr 7 v94 fun v95 =>
 ld1 v95 h fun v96 =>
 natI n_16 fun m97 =>
 elemA 5 m97 v96 fun v98 =>
 fAddr 0 v98 fun v99 =>
 ld1 v99 h fun v100 =>
 asS v100 fun l101 c102 =>
 fI (wrap .i64 (iadd n_16 (Int.ofNat 1))) fun n103 =>
 c (.func 7) [(.int .i64 n103)] h fun v104 h105 =>
 asS v104 fun l106 c107 =>
 ld1 v92 h105 fun v108 =>
 eqC v108 v93 <|
 ld1 v95 h105 fun v109 =>
 eqC v109 v96 <|
 ld1 v99 h105 fun v110 =>
 asS v110 fun l111 c112 =>
 eqC (.str l111 c112) (.str l101 c102) <|
 joinB (fun k113 => gate false (bnot (strEq l101 c102 l106 c107))
 (fAddr 0 v_13 fun v116 =>
 ld1 v116 h105 fun v117 =>
 elemA 8 0 v117 fun v118 =>
 fAddr 7 v118 fun v119 =>
 ld1 v119 h105 fun v120 =>
 natI n_16 fun m121 =>
 elemA 5 m121 v120 fun v122 =>
 fAddr 4 v122 fun v123 =>
 ld1 v123 h105 fun v124 =>
 asB v124 fun b125 =>
 k113 b125 h105)
 (k113 true h105)) fun b115 h114 =>
 cnd b115
 (k (.bool false) h114)
 (fI (wrap .i64 (iadd n_16 (Int.ofNat 1))) fun n126 =>
 J.a3 n_0 v_13 v_14 v_15 n126 h114))
 (ldn 5 v_13 h fun v127 =>
 ldn 3 v_14 h fun v128 =>
 c (.func 12) [v127, v128] h fun v129 h130 =>
 oK (withElem env 49 (fun e ei => exBuildSlice 2 [(0, (.int .i64 (Int.ofNat 0))), (1, (.int .i64 (Int.ofNat 2)))] h130 e ei)) fun v131 h132 =>
 c (.func 11) [v129, v131] h132 fun v133 h134 =>
 asB v133 fun b135 =>
 joinB (fun k136 => gate true b135
 (ldn 5 v_13 h134 fun v139 =>
 ldn 3 v_15 h134 fun v140 =>
 c (.func 12) [v139, v140] h134 fun v141 h142 =>
 oK (withElem env 49 (fun e ei => exBuildSlice 1 [(0, (.int .i64 (Int.ofNat 1)))] h142 e ei)) fun v143 h144 =>
 c (.func 11) [v141, v143] h144 fun v145 h146 =>
 asB v145 fun b147 =>
 k136 b147 h146)
 (k136 false h134)) fun b138 h137 =>
 joinB (fun k148 => gate true b138
 (c (.func 6) [] h137 fun v151 h152 =>
 asB v151 fun b153 =>
 k148 b153 h152)
 (k148 false h137)) fun b150 h149 =>
 k (.bool b150) h149)
noncomputable def s3_4 (c : Caller Prop FT) (k : KV) (J : J3) (n_0 : Int) (v_13 : AV) (v_14 : AV) (v_15 : AV) (h : H) : Prop :=
 fAddr 0 v_13 fun v154 =>
 ld1 v154 h fun v155 =>
 elemA 8 0 v155 fun v156 =>
 ldn 8 v156 h fun v157 =>
 ldn 3 v_14 h fun v158 =>
 c (.func 10) [v157] h fun v159 h160 =>
 ldn 3 v_14 h160 fun v161 =>
 eqC v161 v158 <|
 oV (binA env .neq 41 v159 v158) fun v162 =>
 asB v162 fun b163 =>
 joinB (fun k164 => gate false b163
 (fAddr 0 v_13 fun v167 =>
 ld1 v167 h160 fun v168 =>
 elemA 8 2 v168 fun v169 =>
 ldn 8 v169 h160 fun v170 =>
 ldn 3 v_14 h160 fun v171 =>
 c (.func 10) [v170] h160 fun v172 h173 =>
 ldn 3 v_14 h173 fun v174 =>
 eqC v174 v171 <|
 oV (binA env .neq 41 v172 v171) fun v175 =>
 asB v175 fun b176 =>
 k164 b176 h173)
 (k164 true h160)) fun b166 h165 =>
 joinB (fun k177 => gate false b166
 (fAddr 0 v_13 fun v180 =>
 ld1 v180 h165 fun v181 =>
 elemA 8 1 v181 fun v182 =>
 ldn 8 v182 h165 fun v183 =>
 ldn 3 v_15 h165 fun v184 =>
 c (.func 10) [v183] h165 fun v185 h186 =>
 ldn 3 v_15 h186 fun v187 =>
 eqC v187 v184 <|
 oV (binA env .neq 41 v185 v184) fun v188 =>
 asB v188 fun b189 =>
 k177 b189 h186)
 (k177 true h165)) fun b179 h178 =>
 joinB (fun k190 => gate false b179
 (fAddr 0 v_13 fun v193 =>
 ld1 v193 h178 fun v194 =>
 elemA 8 1 v194 fun v195 =>
 fAddr 7 v195 fun v196 =>
 ld1 v196 h178 fun v197 =>
 lenV v197 fun m198 =>
 k190 (bnot (ibeq (Int.ofNat m198) (Int.ofNat 0))) h178)
 (k190 true h178)) fun b192 h191 =>
 joinB (fun k199 => gate false b192
 (fAddr 0 v_13 fun v202 =>
 ld1 v202 h191 fun v203 =>
 elemA 8 0 v203 fun v204 =>
 fAddr 7 v204 fun v205 =>
 ld1 v205 h191 fun v206 =>
 lenV v206 fun m207 =>
 k199 (bnot (ibeq (Int.ofNat m207) n_0)) h191)
 (k199 true h191)) fun b201 h200 =>
 cnd b201
 (k (.bool false) h200)
 (J.a3 n_0 v_13 v_14 v_15 (Int.ofNat 0) h200)
noncomputable def z3 : J3 := ⟨fun _ _ _ => False, fun _ _ _ _ _ _ => False, fun _ _ _ _ _ _ => False, fun _ _ _ _ _ _ => False, fun _ _ _ _ _ => False⟩
noncomputable def r3 (c : Caller Prop FT) (k : KV) (m : Nat) : J3 := Nat.rec z3 (fun _ J => ⟨s3_0 c k J, s3_1 c k J, s3_2 c k J, s3_3 c k J, s3_4 c k J⟩) m
noncomputable def f3 (J : J3) : Jump := fun L f h => match L with
  | 0 => asI .i64 (f 0) fun n_0 => asI .i64 (f 1) fun n_1 => J.a0 n_0 n_1 h
  | 1 => asI .i64 (f 0) fun n_0 => asI .i64 (f 1) fun n_1 => asS (f 5) fun l_5 c_5 => asI .i64 (f 6) fun n_6 => J.a1 n_0 n_1 l_5 c_5 n_6 h
  | 2 => asI .i64 (f 0) fun n_0 => asI .i64 (f 1) fun n_1 => asS (f 5) fun l_5 c_5 => asI .i64 (f 7) fun n_7 => J.a2 n_0 n_1 l_5 c_5 n_7 h
  | 3 => asI .i64 (f 0) fun n_0 => asI .i64 (f 16) fun n_16 => J.a3 n_0 (f 13) (f 14) (f 15) n_16 h
  | 4 => asI .i64 (f 0) fun n_0 => J.a4 n_0 (f 13) (f 14) (f 15) h
  | _ => False
noncomputable def u3 : Cuts := [(.root, 0), ((.l (.r (.l (.r (.r (.r .root)))))), 1), ((.l (.r (.l (.r (.r (.r (.r .root))))))), 2), ((.l (.r (.l (.r (.r (.r (.r (.r (.r (.r (.r (.r (.r (.r (.r (.r (.r (.r .root)))))))))))))))))), 3), ((.r (.r (.r (.r (.r (.r (.r (.r (.r (.r (.r (.r (.r (.r .root)))))))))))))), 4)]
noncomputable def d6 : Code := Option.rec .skip (fun c => c) Go.Proofs.Tryz.f6.body
noncomputable def q6 : Plans := []
structure J6 where
  a0 : H → Prop
noncomputable def s6_0 (c : Caller Prop FT) (k : KV) (_J : J6) (h : H) : Prop :=
 oK (exBuild env (env.ty 30) [(0, (.str 3 6499937)), (1, (.str 14 212334716821682482705569797202979))] h) fun v1 h2 =>
 oK (withElem env 31 (fun e ei => exBuildSlice 1 [(0, v1)] h2 e ei)) fun v3 h4 =>
 c (.func 8) [.nils, v3] h4 fun v5 h6 =>
 ext 0 v5 fun v7 =>
 ext 1 v5 fun _ =>
 ext 2 v5 fun v9 =>
 asB v9 fun b10 =>
 cnd (bnot b10)
 (k (.bool false) h6)
 (oK (exBuild env (env.ty 39) [(1, (.int .i64 (Int.ofNat 1))), (2, (.int .i64 (Int.ofNat 100)))] h6) fun v11 h12 =>
 c (.func 9) [v7, (.str 3 6499937), v11] h12 fun v13 h14 =>
 Hp.newK h14 ob36 fun p15 h16 =>
 stn 5 (.ptr p15 0) v13 h16 fun h17 =>
 fAddr 0 (.ptr p15 0) fun v18 =>
 ld1 v18 h17 fun v19 =>
 lenV v19 fun m20 =>
 cnd (bnot (ibeq (Int.ofNat m20) (Int.ofNat 1)))
 (k (.bool false) h17)
 (fAddr 0 (.ptr p15 0) fun v21 =>
 ld1 v21 h17 fun v22 =>
 elemA 8 0 v22 fun v23 =>
 ldn 8 v23 h17 fun v24 =>
 c (.func 17) [v7, v24] h17 fun v25 h26 =>
 ext 0 v25 fun v27 =>
 asS v27 fun l28 c29 =>
 ext 1 v25 fun v30 =>
 asB v30 fun b31 =>
 oK (exBuild env (env.ty 41) [(0, (.str 3 6499938))] h26) fun v32 h33 =>
 oK (exBuild env (env.ty 45) [(3, v32)] h33) fun v34 h35 =>
 c (.func 17) [v7, v34] h35 fun v36 h37 =>
 ext 0 v36 fun v38 =>
 asS v38 fun _ _ =>
 ext 1 v36 fun v41 =>
 asB v41 fun b42 =>
 ldn 5 (.ptr p15 0) h37 fun v43 =>
 oK (exBuild env (env.ty 41) [(0, (.str 3 6499937)), (1, (.int .i64 (Int.ofNat 12))), (2, (.int .i64 (Int.ofNat 13)))] h37) fun v44 h45 =>
 c (.func 12) [v43, v44] h45 fun v46 h47 =>
 joinB (fun k48 => gate true (strEq l28 c29 1 121)
 (k48 b31 h47)
 (k48 false h47)) fun b50 h49 =>
 joinB (fun k51 => gate true b50
 (k51 (bnot b42) h49)
 (k51 false h49)) fun b53 h52 =>
 joinB (fun k54 => gate true b53
 (fAddr 0 (.ptr p15 0) fun v57 =>
 ld1 v57 h52 fun v58 =>
 elemA 8 0 v58 fun v59 =>
 ldn 8 v59 h52 fun v60 =>
 c (.func 19) [v7, v60] h52 fun v61 h62 =>
 asB v61 fun b63 =>
 k54 b63 h62)
 (k54 false h52)) fun b56 h55 =>
 joinB (fun k64 => gate true b56
 (oK (exBuild env (env.ty 41) [(0, (.str 3 6499937)), (1, (.int .i64 (Int.ofNat 12))), (2, (.int .i64 (Int.ofNat 13)))] h55) fun v67 h68 =>
 oK (exBuild env (env.ty 45) [(1, (.str 1 122)), (3, v67)] h68) fun v69 h70 =>
 c (.func 19) [v7, v69] h70 fun v71 h72 =>
 asB v71 fun b73 =>
 k64 (bnot b73) h72)
 (k64 false h55)) fun b66 h65 =>
 joinB (fun k74 => gate true b66
 (fAddr 0 (.ptr p15 0) fun v77 =>
 ld1 v77 h65 fun v78 =>
 elemA 8 0 v78 fun v79 =>
 ldn 8 v79 h65 fun v80 =>
 c (.func 10) [v80] h65 fun v81 h82 =>
 oK (exBuild env (env.ty 41) [(0, (.str 3 6499937)), (1, (.int .i64 (Int.ofNat 12))), (2, (.int .i64 (Int.ofNat 13)))] h82) fun v83 h84 =>
 oV (binA env .eql 41 v81 v83) fun v85 =>
 asB v85 fun b86 =>
 k74 b86 h84)
 (k74 false h65)) fun b76 h75 =>
 joinB (fun k87 => gate true b76
 (oK (withElem env 49 (fun e ei => exBuildSlice 1 [(0, (.int .i64 (Int.ofNat 0)))] h75 e ei)) fun v90 h91 =>
 c (.func 11) [v46, v90] h91 fun v92 h93 =>
 asB v92 fun b94 =>
 k87 b94 h93)
 (k87 false h75)) fun b89 h88 =>
 k (.bool b89) h88))
noncomputable def z6 : J6 := ⟨fun _ => False⟩
noncomputable def r6 (c : Caller Prop FT) (k : KV) (m : Nat) : J6 := Nat.rec z6 (fun _ J => ⟨s6_0 c k J⟩) m
noncomputable def f6 (J : J6) : Jump := fun L _ h => match L with
  | 0 => J.a0 h
  | _ => False
noncomputable def u6 : Cuts := [(.root, 0)]
noncomputable def d7 : Code := Option.rec .skip (fun c => c) Go.Proofs.Tryz.f7.body
noncomputable def q7 : Plans := []
structure J7 where
  a0 : Int → H → Prop
noncomputable def s7_0 (_c : Caller Prop FT) (k : KV) (_J : J7) (n_0 : Int) (h : H) : Prop :=
 cnd (ibeq n_0 (Int.ofNat 1))
 (k (.str 2 12397) h)
 (fI (wrap .i64 (iadd (Int.ofNat 97) n_0)) fun n1 =>
 fI (wrap .i64 (isub n1 (Int.ofNat 1))) fun n2 =>
 fI (wrap .u8 n2) fun n3 =>
 oK (withElem env 23 (fun e ei => exBuildSlice 1 [(0, (.int .u8 n3))] h e ei)) fun v4 h5 =>
 oK (convA env h5 23 9 v4) fun v6 h7 =>
 asS v6 fun l8 c9 =>
 catS 1 109 l8 c9 fun l10 c11 =>
 k (.str l10 c11) h7)
noncomputable def z7 : J7 := ⟨fun _ _ => False⟩
noncomputable def r7 (c : Caller Prop FT) (k : KV) (m : Nat) : J7 := Nat.rec z7 (fun _ J => ⟨s7_0 c k J⟩) m
noncomputable def f7 (J : J7) : Jump := fun L f h => match L with
  | 0 => asI .i64 (f 0) fun n_0 => J.a0 n_0 h
  | _ => False
noncomputable def u7 : Cuts := [(.root, 0)]
noncomputable def d8 : Code := Option.rec .skip (fun c => c) Go.Proofs.Tryz.f8.body
noncomputable def q8 : Plans := [(8, [0, 1, 2, 3, 4, 5, 6, 7, 8, 9, 10, 12, 13, 14, 15, 16, 17, 18, 19, 20, 21, 22, 11, 23, 24])]
structure J8 where
  a0 : AV → AV → H → Prop
  a1 : AV → AV → AV → Int → H → Prop
noncomputable def s8_0 (c : Caller Prop FT) (k : KV) (J : J8) (v_0 : AV) (v_1 : AV) (h : H) : Prop :=
 c (.func 21) [v_0] h fun v1 h2 =>
 ext 0 v1 fun v3 =>
 ext 1 v1 fun v4 =>
 asI .i64 v4 fun n5 =>
 oK (exBuild env (env.ty 71) [(0, v_0)] h2) fun v6 h7 =>
 asG v6 fun g8 =>
 chk (Nat.ble 1 (len g8)) <|
 Hp.newK h7 (rowOf 71 g8) fun p9 h10 =>
 joinB (fun k11 => gate false (bnot (ibeq n5 (Int.ofNat 0)))
 (oV (binA env .eql 25 v3 .nilp) fun v14 =>
 asB v14 fun b15 =>
 k11 b15 h10)
 (k11 true h10)) fun b13 h12 =>
 cnd b13
 (k (.tuple [.nilp, (.ptr p9 0), (.bool false)]) h12)
 (J.a1 v_1 v3 (.ptr p9 0) (Int.ofNat 0) h12)
noncomputable def s8_1 (c : Caller Prop FT) (k : KV) (J : J8) (v_1 : AV) (v_7 : AV) (v_9 : AV) (n_10 : Int) (h : H) : Prop :=
 lenV v_1 fun m16 =>
 cnd (iblt n_10 (Int.ofNat m16))
 (natI n_10 fun m17 =>
 elemA 2 m17 v_1 fun v18 =>
 fAddr 0 v18 fun v19 =>
 ld1 v19 h fun v20 =>
 asS v20 fun l21 c22 =>
 natI n_10 fun m23 =>
 elemA 2 m23 v_1 fun v24 =>
 fAddr 1 v24 fun v25 =>
 ld1 v25 h fun v26 =>
 asS v26 fun l27 c28 =>
 natI n_10 fun m29 =>
 elemA 2 m29 v_1 fun v30 =>
 fAddr 0 v30 fun v31 =>
 ld1 v31 h fun v32 =>
 asS v32 fun l33 c34 =>
 natI n_10 fun m35 =>
 elemA 2 m35 v_1 fun v36 =>
 fAddr 1 v36 fun v37 =>
 ld1 v37 h fun v38 =>
 asS v38 fun l39 c40 =>
 c (.func 22) [v_7, (.str l21 c22), (.str l27 c28)] h fun v41 h42 =>
 asI .i64 v41 fun n43 =>
 ld1 v31 h42 fun v44 =>
 asS v44 fun l45 c46 =>
 eqC (.str l45 c46) (.str l33 c34) <|
 ld1 v37 h42 fun v47 =>
 asS v47 fun l48 c49 =>
 eqC (.str l48 c49) (.str l39 c40) <|
 c (.func 23) [v_9, (.str l33 c34), (.str l39 c40)] h42 fun v50 h51 =>
 asI .i64 v50 fun n52 =>
 cnd (bnot (ibeq n43 n52))
 (k (.tuple [.nilp, v_9, (.bool false)]) h51)
 (fI (wrap .i64 (iadd n_10 (Int.ofNat 1))) fun n53 =>
 J.a1 v_1 v_7 v_9 n53 h51))
 (k (.tuple [v_7, v_9, (.bool true)]) h)
noncomputable def z8 : J8 := ⟨fun _ _ _ => False, fun _ _ _ _ _ => False⟩
noncomputable def r8 (c : Caller Prop FT) (k : KV) (m : Nat) : J8 := Nat.rec z8 (fun _ J => ⟨s8_0 c k J, s8_1 c k J⟩) m
noncomputable def f8 (J : J8) : Jump := fun L f h => match L with
  | 0 => J.a0 (f 0) (f 1) h
  | 1 => asI .i64 (f 10) fun n_10 => J.a1 (f 1) (f 7) (f 9) n_10 h
  | _ => False
noncomputable def u8 : Cuts := [(.root, 0), ((.l (.r (.l (.r (.r (.r (.r .root))))))), 1)]
noncomputable def d9 : Code := Option.rec .skip (fun c => c) Go.Proofs.Tryz.f9.body
noncomputable def q9 : Plans := []
structure J9 where
  a0 : AV → Nat → Nat → AV → H → Prop
noncomputable def s9_0 (c : Caller Prop FT) (k : KV) (_J : J9) (v_0 : AV) (l_1 : Nat) (c_1 : Nat) (v_2 : AV) (h : H) : Prop :=
 asG v_2 fun g1 =>
 chk (Nat.ble 1 (len g1)) <|
 Hp.newK h (rowOf 39 g1) fun p2 h3 =>
 Hp.newK h3 ob36 fun p4 h5 =>
 ldn 3 (.ptr p2 0) h5 fun v6 =>
 oK (exBuild env (env.ty 78) [(0, (.func (.func 25) [] [])), (1, (.func (.func 26) [] []))] h5) fun v7 h8 =>
 c (.func 24) [v_0, (.str l_1 c_1), v6, v7] h8 fun v9 h10 =>
 stn 5 (.ptr p4 0) v9 h10 fun h11 =>
 ldn 5 (.ptr p4 0) h11 fun v12 =>
 k v12 h11
noncomputable def z9 : J9 := ⟨fun _ _ _ _ _ => False⟩
noncomputable def r9 (c : Caller Prop FT) (k : KV) (m : Nat) : J9 := Nat.rec z9 (fun _ J => ⟨s9_0 c k J⟩) m
noncomputable def f9 (J : J9) : Jump := fun L f h => match L with
  | 0 => asS (f 1) fun l_1 c_1 => J.a0 (f 0) l_1 c_1 (f 2) h
  | _ => False
noncomputable def u9 : Cuts := [(.root, 0)]
noncomputable def d10 : Code := Option.rec .skip (fun c => c) Go.Proofs.Tryz.f10.body
noncomputable def q10 : Plans := []
structure J10 where
  a0 : AV → H → Prop
noncomputable def s10_0 (c : Caller Prop FT) (k : KV) (_J : J10) (v_0 : AV) (h : H) : Prop :=
 asG v_0 fun g1 =>
 chk (Nat.ble 1 (len g1)) <|
 Hp.newK h (rowOf 45 g1) fun p2 h3 =>
 Hp.newK h3 ob41 fun p4 h5 =>
 ldn 8 (.ptr p2 0) h5 fun v6 =>
 c (.func 27) [v6] h5 fun v7 h8 =>
 stn 3 (.ptr p4 0) v7 h8 fun h9 =>
 ldn 3 (.ptr p4 0) h9 fun v10 =>
 k v10 h9
noncomputable def z10 : J10 := ⟨fun _ _ => False⟩
noncomputable def r10 (c : Caller Prop FT) (k : KV) (m : Nat) : J10 := Nat.rec z10 (fun _ J => ⟨s10_0 c k J⟩) m
noncomputable def f10 (J : J10) : Jump := fun L f h => match L with
  | 0 => J.a0 (f 0) h
  | _ => False
noncomputable def u10 : Cuts := [(.root, 0)]
noncomputable def d11 : Code := Option.rec .skip (fun c => c) Go.Proofs.Tryz.f11.body
noncomputable def q11 : Plans := [(6, [0, 1, 2, 3, 4, 5, 6, 7, 8])]
structure J11 where
  a0 : AV → AV → H → Prop
  a1 : AV → AV → Int → H → Prop
noncomputable def s11_0 (_c : Caller Prop FT) (k : KV) (J : J11) (v_0 : AV) (v_1 : AV) (h : H) : Prop :=
 lenV v_0 fun m1 =>
 lenV v_1 fun m2 =>
 cnd (bnot (ibeq (Int.ofNat m1) (Int.ofNat m2)))
 (k (.bool false) h)
 (J.a1 v_0 v_1 (Int.ofNat 0) h)
noncomputable def s11_1 (_c : Caller Prop FT) (k : KV) (J : J11) (v_0 : AV) (v_1 : AV) (n_5 : Int) (h : H) : Prop :=
 lenV v_0 fun m3 =>
 cnd (iblt n_5 (Int.ofNat m3))
 (natI n_5 fun m4 =>
 elemA 1 m4 v_0 fun v5 =>
 ld1 v5 h fun v6 =>
 asI .i64 v6 fun n7 =>
 natI n_5 fun m8 =>
 elemA 1 m8 v_1 fun v9 =>
 ld1 v9 h fun v10 =>
 asI .i64 v10 fun n11 =>
 cnd (bnot (ibeq n7 n11))
 (k (.bool false) h)
 (fI (wrap .i64 (iadd n_5 (Int.ofNat 1))) fun n12 =>
 J.a1 v_0 v_1 n12 h))
 (k (.bool true) h)
noncomputable def z11 : J11 := ⟨fun _ _ _ => False, fun _ _ _ _ => False⟩
noncomputable def r11 (c : Caller Prop FT) (k : KV) (m : Nat) : J11 := Nat.rec z11 (fun _ J => ⟨s11_0 c k J, s11_1 c k J⟩) m
noncomputable def f11 (J : J11) : Jump := fun L f h => match L with
  | 0 => J.a0 (f 0) (f 1) h
  | 1 => asI .i64 (f 5) fun n_5 => J.a1 (f 0) (f 1) n_5 h
  | _ => False
noncomputable def u11 : Cuts := [(.root, 0), ((.l (.r (.l (.r (.r .root))))), 1)]
noncomputable def d12 : Code := Option.rec .skip (fun c => c) Go.Proofs.Tryz.f12.body
noncomputable def q12 : Plans := []
structure J12 where
  a0 : AV → AV → H → Prop
  a1 : AV → AV → AV → Int → Int → H → Prop
noncomputable def s12_0 (_c : Caller Prop FT) (_k : KV) (J : J12) (v_0 : AV) (v_1 : AV) (h : H) : Prop :=
 asG v_0 fun g1 =>
 chk (Nat.ble 1 (len g1)) <|
 Hp.newK h (rowOf 36 g1) fun p2 h3 =>
 asG v_1 fun g4 =>
 chk (Nat.ble 1 (len g4)) <|
 Hp.newK h3 (rowOf 41 g4) fun p5 h6 =>
 fAddr 0 (.ptr p2 0) fun v7 =>
 ld1 v7 h6 fun v8 =>
 lenV v8 fun m9 =>
 J.a1 (.ptr p5 0) .nils v8 (Int.ofNat m9) (Int.ofNat 0) h6
noncomputable def s12_1 (c : Caller Prop FT) (k : KV) (J : J12) (v_3 : AV) (v_4 : AV) (v_9 : AV) (n_10 : Int) (n_11 : Int) (h : H) : Prop :=
 cnd (iblt n_11 n_10)
 (natI n_11 fun m10 =>
 elemA 8 m10 v_9 fun v11 =>
 ldn 8 v11 h fun v12 =>
 Hp.newK h ob45 fun p13 h14 =>
 stn 8 (.ptr p13 0) v12 h14 fun h15 =>
 ldn 8 (.ptr p13 0) h15 fun v16 =>
 c (.func 10) [v16] h15 fun v17 h18 =>
 Hp.newK h18 ob41 fun p19 h20 =>
 stn 3 (.ptr p19 0) v17 h20 fun h21 =>
 fAddr 0 (.ptr p19 0) fun v22 =>
 ld1 v22 h21 fun v23 =>
 asS v23 fun l24 c25 =>
 fAddr 0 v_3 fun v26 =>
 ld1 v26 h21 fun v27 =>
 asS v27 fun l28 c29 =>
 joinB (fun k30 => gate true (strEq l24 c25 l28 c29)
 (fAddr 1 (.ptr p19 0) fun v33 =>
 ld1 v33 h21 fun v34 =>
 asI .i64 v34 fun n35 =>
 fAddr 2 v_3 fun v36 =>
 ld1 v36 h21 fun v37 =>
 asI .i64 v37 fun n38 =>
 k30 (iblt n35 n38) h21)
 (k30 false h21)) fun b32 h31 =>
 joinB (fun k39 => gate true b32
 (fAddr 2 (.ptr p19 0) fun v42 =>
 ld1 v42 h31 fun v43 =>
 asI .i64 v43 fun n44 =>
 fAddr 1 v_3 fun v45 =>
 ld1 v45 h31 fun v46 =>
 asI .i64 v46 fun n47 =>
 k39 (iblt n47 n44) h31)
 (k39 false h31)) fun b41 h40 =>
 cnd b41
 (oK (withElem env 49 (fun e ei => exBuildSlice 1 [(0, (.int .i64 n_11))] h40 e ei)) fun v48 h49 =>
 oK (builtinA env .append [49, 49] [v_4, v48] h49) fun v50 h51 =>
 fI (wrap .i64 (iadd n_11 (Int.ofNat 1))) fun n52 =>
 J.a1 v_3 v50 v_9 n_10 n52 h51)
 (fI (wrap .i64 (iadd n_11 (Int.ofNat 1))) fun n53 =>
 J.a1 v_3 v_4 v_9 n_10 n53 h40))
 (k v_4 h)
noncomputable def z12 : J12 := ⟨fun _ _ _ => False, fun _ _ _ _ _ _ => False⟩
noncomputable def r12 (c : Caller Prop FT) (k : KV) (m : Nat) : J12 := Nat.rec z12 (fun _ J => ⟨s12_0 c k J, s12_1 c k J⟩) m
noncomputable def f12 (J : J12) : Jump := fun L f h => match L with
  | 0 => J.a0 (f 0) (f 1) h
  | 1 => asI .i64 (f 10) fun n_10 => asI .i64 (f 11) fun n_11 => J.a1 (f 3) (f 4) (f 9) n_10 n_11 h
  | _ => False
noncomputable def u12 : Cuts := [(.root, 0), ((.l (.r (.l (.r .root)))), 1)]
noncomputable def d17 : Code := Option.rec .skip (fun c => c) Go.Proofs.Tryz.f17.body
noncomputable def q17 : Plans := []
structure J17 where
  a0 : AV → AV → H → Prop
noncomputable def s17_0 (c : Caller Prop FT) (k : KV) (_J : J17) (v_0 : AV) (v_1 : AV) (h : H) : Prop :=
 asG v_1 fun g1 =>
 chk (Nat.ble 1 (len g1)) <|
 Hp.newK h (rowOf 45 g1) fun p2 h3 =>
 fAddr 3 (.ptr p2 0) fun v4 =>
 ldn 3 v4 h3 fun v5 =>
 c (.func 32) [v_0, v5] h3 fun v6 h7 =>
 ext 0 v6 fun v8 =>
 asS v8 fun l9 c10 =>
 ext 1 v6 fun v11 =>
 asB v11 fun b12 =>
 k (.tuple [(.str l9 c10), (.bool b12)]) h7
noncomputable def z17 : J17 := ⟨fun _ _ _ => False⟩
noncomputable def r17 (c : Caller Prop FT) (k : KV) (m : Nat) : J17 := Nat.rec z17 (fun _ J => ⟨s17_0 c k J⟩) m
noncomputable def f17 (J : J17) : Jump := fun L f h => match L with
  | 0 => J.a0 (f 0) (f 1) h
  | _ => False
noncomputable def u17 : Cuts := [(.root, 0)]
noncomputable def d19 : Code := Option.rec .skip (fun c => c) Go.Proofs.Tryz.f19.body
noncomputable def q19 : Plans := []
structure J19 where
  a0 : AV → AV → H → Prop
  a1 : AV → AV → Int → Int → H → Prop
noncomputable def s19_0 (c : Caller Prop FT) (k : KV) (J : J19) (v_0 : AV) (v_1 : AV) (h : H) : Prop :=
 asG v_1 fun g1 =>
 chk (Nat.ble 1 (len g1)) <|
 Hp.newK h (rowOf 45 g1) fun p2 h3 =>
 ldn 8 (.ptr p2 0) h3 fun v4 =>
 c (.func 17) [v_0, v4] h3 fun v5 h6 =>
 ext 0 v5 fun v7 =>
 asS v7 fun l8 c9 =>
 ext 1 v5 fun v10 =>
 asB v10 fun b11 =>
 joinB (fun k12 => gate false (bnot b11)
 (fAddr 6 (.ptr p2 0) fun v15 =>
 ld1 v15 h6 fun v16 =>
 asB v16 fun b17 =>
 joinB (fun k18 => gate true (bnot b17)
 (fAddr 0 (.ptr p2 0) fun v21 =>
 ld1 v21 h6 fun v22 =>
 asI .i64 v22 fun n23 =>
 k18 (bnot (ibeq n23 (Int.ofNat 7))) h6)
 (k18 false h6)) fun b20 h19 =>
 joinB (fun k24 => gate true b20
 (fAddr 1 (.ptr p2 0) fun v27 =>
 ld1 v27 h19 fun v28 =>
 asS v28 fun l29 c30 =>
 k24 (bnot (strEq l8 c9 l29 c30)) h19)
 (k24 false h19)) fun b26 h25 =>
 k12 b26 h25)
 (k12 true h6)) fun b14 h13 =>
 cnd b14
 (k (.bool false) h13)
 (fAddr 7 (.ptr p2 0) fun v31 =>
 ld1 v31 h13 fun v32 =>
 lenV v32 fun m33 =>
 J.a1 v_0 v32 (Int.ofNat m33) (Int.ofNat 0) h13)
noncomputable def s19_1 (c : Caller Prop FT) (k : KV) (J : J19) (v_0 : AV) (v_36 : AV) (n_37 : Int) (n_38 : Int) (h : H) : Prop :=
 cnd (iblt n_38 n_37)
 (natI n_38 fun m34 =>
 elemA 5 m34 v_36 fun v35 =>
 ldn 5 v35 h fun v36 =>
 Hp.newK h ob47 fun p37 h38 =>
 stn 5 (.ptr p37 0) v36 h38 fun h39 =>
 fAddr 1 (.ptr p37 0) fun v40 =>
 ldn 3 v40 h39 fun v41 =>
 c (.func 32) [v_0, v41] h39 fun v42 h43 =>
 ext 0 v42 fun v44 =>
 asS v44 fun l45 c46 =>
 ext 1 v42 fun v47 =>
 asB v47 fun b48 =>
 joinB (fun k49 => gate false (bnot b48)
 (fAddr 4 (.ptr p37 0) fun v52 =>
 ld1 v52 h43 fun v53 =>
 asB v53 fun b54 =>
 joinB (fun k55 => gate true (bnot b54)
 (fAddr 0 (.ptr p37 0) fun v58 =>
 ld1 v58 h43 fun v59 =>
 asS v59 fun l60 c61 =>
 k55 (bnot (strEq l45 c46 l60 c61)) h43)
 (k55 false h43)) fun b57 h56 =>
 k49 b57 h56)
 (k49 true h43)) fun b51 h50 =>
 cnd b51
 (k (.bool false) h50)
 (fI (wrap .i64 (iadd n_38 (Int.ofNat 1))) fun n62 =>
 J.a1 v_0 v_36 n_37 n62 h50))
 (k (.bool true) h)
noncomputable def z19 : J19 := ⟨fun _ _ _ => False, fun _ _ _ _ _ => False⟩
noncomputable def r19 (c : Caller Prop FT) (k : KV) (m : Nat) : J19 := Nat.rec z19 (fun _ J => ⟨s19_0 c k J, s19_1 c k J⟩) m
noncomputable def f19 (J : J19) : Jump := fun L f h => match L with
  | 0 => J.a0 (f 0) (f 1) h
  | 1 => asI .i64 (f 37) fun n_37 => asI .i64 (f 38) fun n_38 => J.a1 (f 0) (f 36) n_37 n_38 h
  | _ => False
noncomputable def u19 : Cuts := [(.root, 0), ((.l (.r (.l (.r (.r (.r .root)))))), 1)]
noncomputable def d21 : Code := Option.rec .skip (fun c => c) Go.Proofs.Tryz.f21.body
noncomputable def q21 : Plans := []
structure J21 where
  a0 : AV → H → Prop
noncomputable def s21_0 (c : Caller Prop FT) (k : KV) (_J : J21) (v_0 : AV) (h : H) : Prop :=
 lenV v_0 fun m1 =>
 joinB (fun k2 => gate false (iblt (Int.ofNat 10) (Int.ofNat m1))
 (c (.func 37) [v_0, (.func (.func 35) [] [])] h fun v5 h6 =>
 asB v5 fun b7 =>
 k2 b7 h6)
 (k2 true h)) fun b4 h3 =>
 cnd b4
 (k (.tuple [.nilp, (.int .i64 (Int.ofNat 1))]) h3)
 (c (.func 38) [v_0] h3 fun v8 h9 =>
 Hp.newK h9 (.map [] 0) fun p10 h11 =>
 Hp.newK h11 (.map [] 0) fun p12 h13 =>
 oK (exBuild env (env.ty 92) [(0, v8), (1, (.map p10)), (2, (.map p12))] h13) fun v14 h15 =>
 asG v14 fun g16 =>
 chk (Nat.ble 1 (len g16)) <|
 Hp.newK h15 (rowOf 92 g16) fun p17 h18 =>
 k (.tuple [(.ptr p17 0), (.int .i64 (Int.ofNat 0))]) h18)
noncomputable def z21 : J21 := ⟨fun _ _ => False⟩
noncomputable def r21 (c : Caller Prop FT) (k : KV) (m : Nat) : J21 := Nat.rec z21 (fun _ J => ⟨s21_0 c k J⟩) m
noncomputable def f21 (J : J21) : Jump := fun L f h => match L with
  | 0 => J.a0 (f 0) h
  | _ => False
noncomputable def u21 : Cuts := [(.root, 0)]
noncomputable def d22 : Code := Option.rec .skip (fun c => c) Go.Proofs.Tryz.f22.body
noncomputable def q22 : Plans := []
structure J22 where
  a0 : AV → Nat → Nat → Nat → Nat → H → Prop
noncomputable def s22_0 (c : Caller Prop FT) (k : KV) (_J : J22) (v_0 : AV) (l_1 : Nat) (c_1 : Nat) (l_2 : Nat) (c_2 : Nat) (h : H) : Prop :=
 oV (binA env .eql 25 v_0 .nilp) fun v1 =>
 asB v1 fun b2 =>
 cnd b2
 (k (.int .i64 (Int.ofNat 2)) h)
 (c (.func 36) [(.str l_1 c_1)] h fun v3 h4 =>
 asB v3 fun b5 =>
 cnd (bnot b5)
 (k (.int .i64 (Int.ofNat 1)) h4)
 (oK (exNil v_0 h4) fun v6 h7 =>
 fAddr 1 v6 fun v8 =>
 ld1 v8 h7 fun v9 =>
 oK (exLookup env 89 v9 (.str l_1 c_1) true h7) fun v10 h11 =>
 ext 0 v10 fun _ =>
 ext 1 v10 fun v13 =>
 asB v13 fun b14 =>
 cnd b14
 (k (.int .i64 (Int.ofNat 3)) h11)
 (oK (exNil v_0 h11) fun v15 h16 =>
 fAddr 1 v15 fun v17 =>
 ld1 v17 h16 fun v18 =>
 oK (biLen env [89] v18 h16) fun v19 h20 =>
 asI .i64 v19 fun n21 =>
 cnd (ible (Int.ofNat 50) n21)
 (k (.int .i64 (Int.ofNat 4)) h20)
 (c (.func 39) [(.str l_2 c_2)] h20 fun v22 h23 =>
 ext 0 v22 fun v24 =>
 ext 1 v22 fun v25 =>
 asI .i64 v25 fun n26 =>
 c (.func 40) [v_0, (.str l_1 c_1), v24, (.int .i64 n26)] h23 fun v27 h28 =>
 asI .i64 v27 fun n29 =>
 k (.int .i64 n29) h28))))
noncomputable def z22 : J22 := ⟨fun _ _ _ _ _ _ => False⟩
noncomputable def r22 (c : Caller Prop FT) (k : KV) (m : Nat) : J22 := Nat.rec z22 (fun _ J => ⟨s22_0 c k J⟩) m
noncomputable def f22 (J : J22) : Jump := fun L f h => match L with
  | 0 => asS (f 1) fun l_1 c_1 => asS (f 2) fun l_2 c_2 => J.a0 (f 0) l_1 c_1 l_2 c_2 h
  | _ => False
noncomputable def u22 : Cuts := [(.root, 0)]
noncomputable def d23 : Code := Option.rec .skip (fun c => c) Go.Proofs.Tryz.f23.body
noncomputable def q23 : Plans := []
structure J23 where
  a0 : AV → Nat → Nat → Nat → Nat → H → Prop
noncomputable def s23_0 (c : Caller Prop FT) (k : KV) (_J : J23) (v_0 : AV) (l_1 : Nat) (c_1 : Nat) (l_2 : Nat) (c_2 : Nat) (h : H) : Prop :=
 c (.func 41) [v_0, (.str l_1 c_1)] h fun v1 h2 =>
 ext 0 v1 fun v3 =>
 asI .i64 v3 fun _ =>
 ext 1 v1 fun v5 =>
 asB v5 fun b6 =>
 c (.func 42) [(.str l_1 c_1)] h2 fun v7 h8 =>
 asB v7 fun b9 =>
 cnd (bnot b9)
 (k (.int .i64 (Int.ofNat 1)) h8)
 (cnd b6
 (k (.int .i64 (Int.ofNat 3)) h8)
 (oK (exNil v_0 h8) fun v10 h11 =>
 fAddr 1 v10 fun v12 =>
 ld1 v12 h11 fun v13 =>
 lenV v13 fun m14 =>
 joinB (fun k15 => gate false (ible (Int.ofNat 50) (Int.ofNat m14))
 (k15 (iblt (Int.ofNat 65536) (Int.ofNat l_2)) h11)
 (k15 true h11)) fun b17 h16 =>
 cnd b17
 (k (.int .i64 (Int.ofNat 4)) h16)
 (c (.func 43) [v_0, (.str l_1 c_1), (.str l_2 c_2)] h16 fun _ h19 =>
 k (.int .i64 (Int.ofNat 0)) h19)))
noncomputable def z23 : J23 := ⟨fun _ _ _ _ _ _ => False⟩
noncomputable def r23 (c : Caller Prop FT) (k : KV) (m : Nat) : J23 := Nat.rec z23 (fun _ J => ⟨s23_0 c k J⟩) m
noncomputable def f23 (J : J23) : Jump := fun L f h => match L with
  | 0 => asS (f 1) fun l_1 c_1 => asS (f 2) fun l_2 c_2 => J.a0 (f 0) l_1 c_1 l_2 c_2 h
  | _ => False
noncomputable def u23 : Cuts := [(.root, 0)]
noncomputable def d24 : Code := Option.rec .skip (fun c => c) Go.Proofs.Tryz.f24.body
noncomputable def q24 : Plans := [(4, [0, 1, 2, 4, 5, 7, 8, 3, 6, 9, 10, 11])]
structure J24 where
  a0 : AV → Nat → Nat → AV → AV → H → Prop
noncomputable def s24_0 (c : Caller Prop FT) (k : KV) (_J : J24) (v_0 : AV) (l_1 : Nat) (c_1 : Nat) (v_2 : AV) (v_3 : AV) (h : H) : Prop :=
 asG v_2 fun g1 =>
 chk (Nat.ble 1 (len g1)) <|
 Hp.newK h (rowOf 39 g1) fun p2 h3 =>
 asG v_3 fun g4 =>
 chk (Nat.ble 1 (len g4)) <|
 Hp.newK h3 (rowOf 78 g4) fun p5 h6 =>
 Hp.newK h6 ob36 fun p7 h8 =>
 c (.func 44) [v_0, (.str l_1 c_1)] h8 fun v9 h10 =>
 ext 0 v9 fun _ =>
 ext 1 v9 fun v12 =>
 asB v12 fun b13 =>
 joinB (fun k14 => gate false (bnot b13)
 (ldn 3 (.ptr p2 0) h10 fun v17 =>
 c (.func 29) [v17] h10 fun v18 h19 =>
 asB v18 fun b20 =>
 k14 (bnot b20) h19)
 (k14 true h10)) fun b16 h15 =>
 cnd b16
 (oK (exBuild env (env.ty 36) [] h15) fun v21 h22 =>
 stn 5 (.ptr p7 0) v21 h22 fun h23 =>
 ldn 5 (.ptr p7 0) h23 fun v24 =>
 k v24 h23)
 (ldn 3 (.ptr p2 0) h15 fun v25 =>
 ldn 2 (.ptr p5 0) h15 fun v26 =>
 fAddr 2 (.ptr p2 0) fun v27 =>
 ld1 v27 h15 fun v28 =>
 asI .i64 v28 fun n29 =>
 Hp.newK h15 (.map [] 0) fun p30 h31 =>
 ldn 3 (.ptr p2 0) h31 fun v32 =>
 eqC v32 v25 <|
 ldn 2 (.ptr p5 0) h31 fun v33 =>
 eqC v33 v26 <|
 ld1 v27 h31 fun v34 =>
 asI .i64 v34 fun n35 =>
 eqC (.int .i64 n35) (.int .i64 n29) <|
 Hp.newK h31 (.map [] 0) fun p36 h37 =>
 ldn 3 (.ptr p2 0) h37 fun v38 =>
 eqC v38 v25 <|
 ldn 2 (.ptr p5 0) h37 fun v39 =>
 eqC v39 v26 <|
 ld1 v27 h37 fun v40 =>
 asI .i64 v40 fun n41 =>
 eqC (.int .i64 n41) (.int .i64 n29) <|
 c (.func 45) [] h37 fun v42 h43 =>
 ldn 3 (.ptr p2 0) h43 fun v44 =>
 eqC v44 v25 <|
 ldn 2 (.ptr p5 0) h43 fun v45 =>
 eqC v45 v26 <|
 ld1 v27 h43 fun v46 =>
 asI .i64 v46 fun n47 =>
 eqC (.int .i64 n47) (.int .i64 n29) <|
 c (.func 46) [(.int .i64 n29)] h43 fun v48 h49 =>
 ldn 3 (.ptr p2 0) h49 fun v50 =>
 eqC v50 v25 <|
 ldn 2 (.ptr p5 0) h49 fun v51 =>
 eqC v51 v26 <|
 oK (exBuild env (env.ty 109) [(0, v_0), (1, v25), (2, v26), (3, v42), (4, v48), (6, (.map p30)), (7, (.map p36))] h49) fun v52 h53 =>
 asG v52 fun g54 =>
 chk (Nat.ble 1 (len g54)) <|
 Hp.newK h53 (rowOf 109 g54) fun p55 h56 =>
 c (.func 47) [(.ptr p55 0), (.str l_1 c_1)] h56 fun _ h58 =>
 oK (exNil (.ptr p55 0) h58) fun v59 h60 =>
 fAddr 13 v59 fun v61 =>
 ld1 v61 h60 fun v62 =>
 c (.func 49) [v62] h60 fun v63 h64 =>
 c (.func 48) [v63] h64 fun v65 h66 =>
 oK (exNil (.ptr p55 0) h66) fun v67 h68 =>
 fAddr 8 v67 fun v69 =>
 fAddr 2 v69 fun v70 =>
 st1 v70 v65 h68 fun h71 =>
 oK (exNil (.ptr p55 0) h71) fun v72 h73 =>
 fAddr 14 v72 fun v74 =>
 ld1 v74 h73 fun v75 =>
 c (.func 49) [v75] h73 fun v76 h77 =>
 c (.func 48) [v76] h77 fun v78 h79 =>
 oK (exNil (.ptr p55 0) h79) fun v80 h81 =>
 fAddr 8 v80 fun v82 =>
 fAddr 3 v82 fun v83 =>
 st1 v83 v78 h81 fun h84 =>
 oK (exNil (.ptr p55 0) h84) fun v85 h86 =>
 fAddr 8 v85 fun v87 =>
 ldn 5 v87 h86 fun v88 =>
 stn 5 (.ptr p7 0) v88 h86 fun h89 =>
 ldn 5 (.ptr p7 0) h89 fun v90 =>
 k v90 h89)
noncomputable def z24 : J24 := ⟨fun _ _ _ _ _ _ => False⟩
noncomputable def r24 (c : Caller Prop FT) (k : KV) (m : Nat) : J24 := Nat.rec z24 (fun _ J => ⟨s24_0 c k J⟩) m
noncomputable def f24 (J : J24) : Jump := fun L f h => match L with
  | 0 => asS (f 1) fun l_1 c_1 => J.a0 (f 0) l_1 c_1 (f 2) (f 3) h
  | _ => False
noncomputable def u24 : Cuts := [(.root, 0)]
noncomputable def d25 : Code := Option.rec .skip (fun c => c) Go.Proofs.Tryz.f25.body
noncomputable def q25 : Plans := []
structure J25 where
  a0 : Nat → Nat → Nat → Nat → H → Prop
  a1 : Nat → Nat → AV → Int → Int → H → Prop
noncomputable def s25_0 (c : Caller Prop FT) (_k : KV) (J : J25) (l_0 : Nat) (c_0 : Nat) (l_1 : Nat) (c_1 : Nat) (h : H) : Prop :=
 Hp.newK h ob117 fun p1 h2 =>
 c (.func 50) [(.str l_0 c_0), (.str l_1 c_1)] h2 fun v3 h4 =>
 ext 0 v3 fun v5 =>
 ext 1 v3 fun v6 =>
 fAddr 0 (.ptr p1 0) fun v7 =>
 st1 v7 v5 h4 fun h8 =>
 fAddr 1 (.ptr p1 0) fun v9 =>
 st1 v9 v6 h8 fun h10 =>
 J.a1 l_1 c_1 (.ptr p1 0) (Int.ofNat l_1) (Int.ofNat 0) h10
noncomputable def s25_1 (_c : Caller Prop FT) (k : KV) (J : J25) (l_1 : Nat) (c_1 : Nat) (v_4 : AV) (n_15 : Int) (n_16 : Int) (h : H) : Prop :=
 cnd (iblt n_16 n_15)
 (natI n_16 fun m11 =>
 idxS l_1 c_1 m11 fun m12 =>
 cnd (ibeq (Int.ofNat m12) (Int.ofNat 10))
 (fAddr 2 v_4 fun v13 =>
 ld1 v13 h fun v14 =>
 fI (wrap .i64 (iadd n_16 (Int.ofNat 1))) fun n15 =>
 oK (withElem env 49 (fun e ei => exBuildSlice 1 [(0, (.int .i64 n15))] h e ei)) fun v16 h17 =>
 oK (builtinA env .append [49, 49] [v14, v16] h17) fun v18 h19 =>
 fAddr 2 v_4 fun v20 =>
 st1 v20 v18 h19 fun h21 =>
 fI (wrap .i64 (iadd n_16 (Int.ofNat 1))) fun n22 =>
 J.a1 l_1 c_1 v_4 n_15 n22 h21)
 (fI (wrap .i64 (iadd n_16 (Int.ofNat 1))) fun n23 =>
 J.a1 l_1 c_1 v_4 n_15 n23 h))
 (ldn 3 v_4 h fun v24 =>
 stn 3 v_4 v24 h fun h25 =>
 ldn 3 v_4 h25 fun v26 =>
 k v26 h25)
noncomputable def z25 : J25 := ⟨fun _ _ _ _ _ => False, fun _ _ _ _ _ _ => False⟩
noncomputable def r25 (c : Caller Prop FT) (k : KV) (m : Nat) : J25 := Nat.rec z25 (fun _ J => ⟨s25_0 c k J, s25_1 c k J⟩) m
noncomputable def f25 (J : J25) : Jump := fun L f h => match L with
  | 0 => asS (f 0) fun l_0 c_0 => asS (f 1) fun l_1 c_1 => J.a0 l_0 c_0 l_1 c_1 h
  | 1 => asS (f 1) fun l_1 c_1 => asI .i64 (f 15) fun n_15 => asI .i64 (f 16) fun n_16 => J.a1 l_1 c_1 (f 4) n_15 n_16 h
  | _ => False
noncomputable def u25 : Cuts := [(.root, 0), ((.l (.r (.l (.r (.r .root))))), 1)]
noncomputable def d26 : Code := Option.rec .skip (fun c => c) Go.Proofs.Tryz.f26.body
noncomputable def q26 : Plans := [(5, [0, 1, 2, 3, 4, 5, 6, 7, 8, 9, 10, 11]), (12, [0, 1, 2, 3, 4, 5, 6, 7, 8, 9, 10, 11, 12, 13, 14, 15, 16, 17, 18, 19, 20, 23, 21, 22, 24, 25, 26, 27, 28]), (4294967294, [9]), (4294967295, [89])]
noncomputable def lp26_0 : LpS := lpOf q26 (codeAt d26 (.l (.r (.l (.r (.r .root))))))
structure J26 where
  a0 : AV → AV → AV → AV → H → Prop
  a1 : AV → AV → AV → Int → Int → H → Prop
noncomputable def s26_0 (c : Caller Prop FT) (_k : KV) (J : J26) (v_0 : AV) (v_1 : AV) (v_2 : AV) (v_3 : AV) (h : H) : Prop :=
 asG v_2 fun g1 =>
 chk (Nat.ble 1 (len g1)) <|
 Hp.newK h (rowOf 121 g1) fun p2 h3 =>
 Hp.newK h3 ob123 fun p4 h5 =>
 ldn 3 (.ptr p2 0) h5 fun v6 =>
 Hp.newK h5 (.map [] 0) fun p7 h8 =>
 oK (exBuild env (env.ty 127) [(0, v_0), (1, v6), (2, v_3), (3, (.map p7))] h8) fun v9 h10 =>
 asG v9 fun g11 =>
 chk (Nat.ble 1 (len g11)) <|
 Hp.newK h10 (rowOf 127 g11) fun p12 h13 =>
 oK (exBuild env (env.ty 130) [(0, (.ptr p12 0)), (1, (.bool true))] h13) fun v14 h15 =>
 asG v14 fun g16 =>
 chk (Nat.ble 1 (len g16)) <|
 Hp.newK h15 (rowOf 130 g16) fun p17 h18 =>
 Hp.newK h18 ob124 fun p19 h20 =>
 st1 (.ptr p19 0) (.ptr p17 0) h20 fun h21 =>
 c (.func 51) [v_1] h21 fun v22 h23 =>
 rangeA env c lp26_0 v22 (fset (fun _ => .top) 9 (.ptr p19 0)) h23 fun x24 h25 =>
 cnd (axEq x24 .normal)
 (ld1 (.ptr p19 0) h25 fun v26 =>
 c (.func 53) [v26] h25 fun v27 h28 =>
 lenV v27 fun m29 =>
 J.a1 (.ptr p4 0) (.ptr p19 0) v27 (Int.ofNat m29) (Int.ofNat 0) h28)
 (False)
noncomputable def s26_1 (c : Caller Prop FT) (k : KV) (J : J26) (v_8 : AV) (v_9 : AV) (v_42 : AV) (n_43 : Int) (n_44 : Int) (h : H) : Prop :=
 cnd (iblt n_44 n_43)
 (natI n_44 fun m30 =>
 elemA 9 m30 v_42 fun v31 =>
 ldn 9 v31 h fun v32 =>
 Hp.newK h ob136 fun p33 h34 =>
 stn 9 (.ptr p33 0) v32 h34 fun h35 =>
 fAddr 0 (.ptr p33 0) fun v36 =>
 fAddr 7 v36 fun v37 =>
 ld1 v37 h35 fun v38 =>
 c (.func 52) [v38] h35 fun v39 h40 =>
 fAddr 0 (.ptr p33 0) fun v41 =>
 fAddr 7 v41 fun v42 =>
 st1 v42 v39 h40 fun h43 =>
 fAddr 0 v_8 fun v44 =>
 ld1 v44 h43 fun v45 =>
 fAddr 0 (.ptr p33 0) fun v46 =>
 ldn 8 v46 h43 fun v47 =>
 oK (withElem env 32 (fun e ei => exBuildSlice 1 [(0, v47)] h43 e ei)) fun v48 h49 =>
 oK (builtinA env .append [32, 32] [v45, v48] h49) fun v50 h51 =>
 fAddr 0 v_8 fun v52 =>
 st1 v52 v50 h51 fun h53 =>
 fI (wrap .i64 (iadd n_44 (Int.ofNat 1))) fun n54 =>
 J.a1 v_8 v_9 v_42 n_43 n54 h53)
 (ld1 v_9 h fun v55 =>
 oK (exNil v55 h) fun v56 h57 =>
 fAddr 0 v56 fun v58 =>
 ld1 v58 h57 fun v59 =>
 oK (exNil v59 h57) fun v60 h61 =>
 fAddr 6 v60 fun v62 =>
 ld1 v62 h61 fun v63 =>
 ld1 v_9 h61 fun v64 =>
 oK (exNil v64 h61) fun v65 h66 =>
 fAddr 0 v65 fun v67 =>
 ld1 v67 h66 fun v68 =>
 oK (exNil v68 h66) fun v69 h70 =>
 fAddr 7 v69 fun v71 =>
 ld1 v71 h70 fun v72 =>
 asB v72 fun b73 =>
 ld1 v_9 h70 fun v74 =>
 oK (exNil v74 h70) fun v75 h76 =>
 fAddr 0 v75 fun v77 =>
 ld1 v77 h76 fun v78 =>
 oK (exNil v78 h76) fun v79 h80 =>
 fAddr 5 v79 fun v81 =>
 ld1 v81 h80 fun v82 =>
 fAddr 1 v_8 fun v83 =>
 c (.func 49) [v82] h80 fun v84 h85 =>
 ld1 v_9 h85 fun v86 =>
 eqC v86 v55 <|
 ld1 v58 h85 fun v87 =>
 eqC v87 v59 <|
 ld1 v62 h85 fun v88 =>
 eqC v88 v63 <|
 ld1 v_9 h85 fun v89 =>
 eqC v89 v64 <|
 ld1 v67 h85 fun v90 =>
 eqC v90 v68 <|
 ld1 v71 h85 fun v91 =>
 asB v91 fun b92 =>
 eqC (.bool b92) (.bool b73) <|
 c (.func 48) [v84] h85 fun v93 h94 =>
 ld1 v_9 h94 fun v95 =>
 eqC v95 v55 <|
 ld1 v58 h94 fun v96 =>
 eqC v96 v59 <|
 ld1 v62 h94 fun v97 =>
 eqC v97 v63 <|
 ld1 v_9 h94 fun v98 =>
 eqC v98 v64 <|
 ld1 v67 h94 fun v99 =>
 eqC v99 v68 <|
 ld1 v71 h94 fun v100 =>
 asB v100 fun b101 =>
 eqC (.bool b101) (.bool b73) <|
 st1 v83 v63 h94 fun h102 =>
 ld1 v_9 h102 fun v103 =>
 eqC v103 v64 <|
 ld1 v67 h102 fun v104 =>
 eqC v104 v68 <|
 ld1 v71 h102 fun v105 =>
 asB v105 fun b106 =>
 eqC (.bool b106) (.bool b73) <|
 fAddr 2 v_8 fun v107 =>
 st1 v107 (.bool b73) h102 fun h108 =>
 fAddr 3 v_8 fun v109 =>
 st1 v109 v93 h108 fun h110 =>
 ldn 4 v_8 h110 fun v111 =>
 stn 4 v_8 v111 h110 fun h112 =>
 ldn 4 v_8 h112 fun v113 =>
 k v113 h112)
noncomputable def z26 : J26 := ⟨fun _ _ _ _ _ => False, fun _ _ _ _ _ _ => False⟩
noncomputable def r26 (c : Caller Prop FT) (k : KV) (m : Nat) : J26 := Nat.rec z26 (fun _ J => ⟨s26_0 c k J, s26_1 c k J⟩) m
noncomputable def f26 (J : J26) : Jump := fun L f h => match L with
  | 0 => J.a0 (f 0) (f 1) (f 2) (f 3) h
  | 1 => asI .i64 (f 43) fun n_43 => asI .i64 (f 44) fun n_44 => J.a1 (f 8) (f 9) (f 42) n_43 n_44 h
  | _ => False
noncomputable def u26 : Cuts := [(.root, 0), ((.l (.r (.l (.r (.r (.r .root)))))), 1)]
noncomputable def d27 : Code := Option.rec .skip (fun c => c) Go.Proofs.Tryz.f27.body
noncomputable def q27 : Plans := []
structure J27 where
  a0 : AV → H → Prop
noncomputable def s27_0 (_c : Caller Prop FT) (k : KV) (_J : J27) (v_0 : AV) (h : H) : Prop :=
 asG v_0 fun g1 =>
 chk (Nat.ble 1 (len g1)) <|
 Hp.newK h (rowOf 45 g1) fun p2 h3 =>
 Hp.newK h3 ob41 fun p4 h5 =>
 fAddr 7 (.ptr p2 0) fun v6 =>
 ld1 v6 h5 fun v7 =>
 lenV v7 fun m8 =>
 cnd (iblt (Int.ofNat 0) (Int.ofNat m8))
 (fAddr 7 (.ptr p2 0) fun v9 =>
 ld1 v9 h5 fun v10 =>
 fI (wrap .i64 (isub (Int.ofNat m8) (Int.ofNat 1))) fun n11 =>
 natI n11 fun m12 =>
 elemA 5 m12 v10 fun v13 =>
 fAddr 1 v13 fun v14 =>
 ldn 3 v14 h5 fun v15 =>
 stn 3 (.ptr p4 0) v15 h5 fun h16 =>
 ldn 3 (.ptr p4 0) h16 fun v17 =>
 k v17 h16)
 (fAddr 3 (.ptr p2 0) fun v18 =>
 ldn 3 v18 h5 fun v19 =>
 stn 3 (.ptr p4 0) v19 h5 fun h20 =>
 ldn 3 (.ptr p4 0) h20 fun v21 =>
 k v21 h20)
noncomputable def z27 : J27 := ⟨fun _ _ => False⟩
noncomputable def r27 (c : Caller Prop FT) (k : KV) (m : Nat) : J27 := Nat.rec z27 (fun _ J => ⟨s27_0 c k J⟩) m
noncomputable def f27 (J : J27) : Jump := fun L f h => match L with
  | 0 => J.a0 (f 0) h
  | _ => False
noncomputable def u27 : Cuts := [(.root, 0)]
noncomputable def d29 : Code := Option.rec .skip (fun c => c) Go.Proofs.Tryz.f29.body
noncomputable def q29 : Plans := []
structure J29 where
  a0 : AV → H → Prop
noncomputable def s29_0 (_c : Caller Prop FT) (k : KV) (_J : J29) (v_0 : AV) (h : H) : Prop :=
 asG v_0 fun g1 =>
 chk (Nat.ble 1 (len g1)) <|
 Hp.newK h (rowOf 39 g1) fun p2 h3 =>
 fAddr 1 (.ptr p2 0) fun v4 =>
 ld1 v4 h3 fun v5 =>
 asI .i64 v5 fun n6 =>
 joinB (fun k7 => gate true (ible (Int.ofNat 1) n6)
 (fAddr 1 (.ptr p2 0) fun v10 =>
 ld1 v10 h3 fun v11 =>
 asI .i64 v11 fun n12 =>
 k7 (ible n12 (Int.ofNat 100)) h3)
 (k7 false h3)) fun b9 h8 =>
 joinB (fun k13 => gate true b9
 (fAddr 2 (.ptr p2 0) fun v16 =>
 ld1 v16 h8 fun v17 =>
 asI .i64 v17 fun n18 =>
 k13 (ible (Int.ofNat 0) n18) h8)
 (k13 false h8)) fun b15 h14 =>
 joinB (fun k19 => gate true b15
 (fAddr 2 (.ptr p2 0) fun v22 =>
 ld1 v22 h14 fun v23 =>
 asI .i64 v23 fun n24 =>
 k19 (ible n24 (Int.ofNat 200000)) h14)
 (k19 false h14)) fun b21 h20 =>
 k (.bool b21) h20
noncomputable def z29 : J29 := ⟨fun _ _ => False⟩
noncomputable def r29 (c : Caller Prop FT) (k : KV) (m : Nat) : J29 := Nat.rec z29 (fun _ J => ⟨s29_0 c k J⟩) m
noncomputable def f29 (J : J29) : Jump := fun L f h => match L with
  | 0 => J.a0 (f 0) h
  | _ => False
noncomputable def u29 : Cuts := [(.root, 0)]
noncomputable def d32 : Code := Option.rec .skip (fun c => c) Go.Proofs.Tryz.f32.body
noncomputable def q32 : Plans := [(2, [0, 1, 2, 3, 4, 5, 6, 7, 8, 9, 10, 11, 12, 13, 14, 15, 16, 17, 18, 19, 20]), (4, [0, 2, 3, 4, 5, 1, 6, 7, 8])]
structure J32 where
  a0 : AV → AV → H → Prop
noncomputable def s32_0 (c : Caller Prop FT) (k : KV) (_J : J32) (v_0 : AV) (v_1 : AV) (h : H) : Prop :=
 asG v_1 fun g1 =>
 chk (Nat.ble 1 (len g1)) <|
 Hp.newK h (rowOf 41 g1) fun p2 h3 =>
 fAddr 0 (.ptr p2 0) fun v4 =>
 ld1 v4 h3 fun v5 =>
 asS v5 fun l6 c7 =>
 c (.func 44) [v_0, (.str l6 c7)] h3 fun v8 h9 =>
 ext 0 v8 fun v10 =>
 ext 1 v8 fun v11 =>
 asB v11 fun b12 =>
 joinB (fun k13 => gate false (bnot b12)
 (fAddr 1 (.ptr p2 0) fun v16 =>
 ld1 v16 h9 fun v17 =>
 asI .i64 v17 fun n18 =>
 k13 (iblt n18 (Int.ofNat 0)) h9)
 (k13 true h9)) fun b15 h14 =>
 joinB (fun k19 => gate false b15
 (fAddr 1 (.ptr p2 0) fun v22 =>
 ld1 v22 h14 fun v23 =>
 asI .i64 v23 fun n24 =>
 fAddr 2 (.ptr p2 0) fun v25 =>
 ld1 v25 h14 fun v26 =>
 asI .i64 v26 fun n27 =>
 k19 (iblt n27 n24) h14)
 (k19 true h14)) fun b21 h20 =>
 joinB (fun k28 => gate false b21
 (fAddr 2 (.ptr p2 0) fun v31 =>
 ld1 v31 h20 fun v32 =>
 asI .i64 v32 fun n33 =>
 c (.func 54) [v10] h20 fun v34 h35 =>
 asI .i64 v34 fun n36 =>
 ld1 v31 h35 fun v37 =>
 asI .i64 v37 fun n38 =>
 eqC (.int .i64 n38) (.int .i64 n33) <|
 k28 (iblt n36 n33) h35)
 (k28 true h20)) fun b30 h29 =>
 cnd b30
 (k (.tuple [(.str 0 0), (.bool false)]) h29)
 (fAddr 1 (.ptr p2 0) fun v39 =>
 ld1 v39 h29 fun v40 =>
 asI .i64 v40 fun n41 =>
 fAddr 2 (.ptr p2 0) fun v42 =>
 ld1 v42 h29 fun v43 =>
 asI .i64 v43 fun n44 =>
 c (.func 56) [v10] h29 fun v45 h46 =>
 asS v45 fun l47 c48 =>
 ld1 v39 h46 fun v49 =>
 asI .i64 v49 fun n50 =>
 eqC (.int .i64 n50) (.int .i64 n41) <|
 ld1 v42 h46 fun v51 =>
 asI .i64 v51 fun n52 =>
 eqC (.int .i64 n52) (.int .i64 n44) <|
 c (.func 55) [(.str l47 c48), (.int .i64 n41), (.int .i64 n44)] h46 fun v53 h54 =>
 asS v53 fun l55 c56 =>
 k (.tuple [(.str l55 c56), (.bool true)]) h54)
noncomputable def z32 : J32 := ⟨fun _ _ _ => False⟩
noncomputable def r32 (c : Caller Prop FT) (k : KV) (m : Nat) : J32 := Nat.rec z32 (fun _ J => ⟨s32_0 c k J⟩) m
noncomputable def f32 (J : J32) : Jump := fun L f h => match L with
  | 0 => J.a0 (f 0) (f 1) h
  | _ => False
noncomputable def u32 : Cuts := [(.root, 0)]
noncomputable def d35 : Code := Option.rec .skip (fun c => c) Go.Proofs.Tryz.f35.body
noncomputable def q35 : Plans := []
noncomputable def u35 : Cuts := [(.root, 0)]
noncomputable def d36 : Code := Option.rec .skip (fun c => c) Go.Proofs.Tryz.f36.body
noncomputable def q36 : Plans := [(4294967294, [2]), (4294967295, [13])]
noncomputable def lp36_0 : LpS := lpOf q36 (codeAt d36 (.l (.r (.l (.r (.r .root))))))
structure J36 where
  a0 : Nat → Nat → H → Prop
noncomputable def s36_0 (c : Caller Prop FT) (k : KV) (_J : J36) (l_0 : Nat) (c_0 : Nat) (h : H) : Prop :=
 Hp.newK h ob4 fun p1 h2 =>
 cnd (iblt (Int.ofNat 80) (Int.ofNat l_0))
 (st1 (.ptr p1 0) (.bool false) h2 fun h3 =>
 ld1 (.ptr p1 0) h3 fun v4 =>
 k v4 h3)
 (c (.func 59) [(.str l_0 c_0), (.str 1 47)] h2 fun v5 h6 =>
 rangeA env c lp36_0 v5 (fset (fun _ => .top) 2 (.ptr p1 0)) h6 fun x7 h8 =>
 cnd (axEq x7 .normal)
 (st1 (.ptr p1 0) (.bool true) h8 fun h10 =>
 ld1 (.ptr p1 0) h10 fun v11 =>
 k v11 h10)
 (cnd (axEq x7 .ret)
 (ld1 (.ptr p1 0) h8 fun v9 =>
 k v9 h8)
 (False)))
noncomputable def z36 : J36 := ⟨fun _ _ _ => False⟩
noncomputable def r36 (c : Caller Prop FT) (k : KV) (m : Nat) : J36 := Nat.rec z36 (fun _ J => ⟨s36_0 c k J⟩) m
noncomputable def f36 (J : J36) : Jump := fun L f h => match L with
  | 0 => asS (f 0) fun l_0 c_0 => J.a0 l_0 c_0 h
  | _ => False
noncomputable def u36 : Cuts := [(.root, 0)]
noncomputable def d37 : Code := Option.rec .skip (fun c => c) Go.Proofs.Tryz.f37.body
noncomputable def q37 : Plans := []
structure J37 where
  a0 : AV → AV → H → Prop
noncomputable def s37_0 (c : Caller Prop FT) (k : KV) (_J : J37) (v_0 : AV) (v_1 : AV) (h : H) : Prop :=
 c (.func 61) [v_0, v_1] h fun v1 h2 =>
 asI .i64 v1 fun n3 =>
 k (.bool (ible (Int.ofNat 0) n3)) h2
noncomputable def z37 : J37 := ⟨fun _ _ _ => False⟩
noncomputable def r37 (c : Caller Prop FT) (k : KV) (m : Nat) : J37 := Nat.rec z37 (fun _ J => ⟨s37_0 c k J⟩) m
noncomputable def f37 (J : J37) : Jump := fun L f h => match L with
  | 0 => J.a0 (f 0) (f 1) h
  | _ => False
noncomputable def u37 : Cuts := [(.root, 0)]
noncomputable def d38 : Code := Option.rec .skip (fun c => c) Go.Proofs.Tryz.f38.body
noncomputable def q38 : Plans := []
structure J38 where
  a0 : AV → H → Prop
noncomputable def s38_0 (_c : Caller Prop FT) (k : KV) (_J : J38) (v_0 : AV) (h : H) : Prop :=
 oV (binA env .eql 34 v_0 .nils) fun v1 =>
 asB v1 fun b2 =>
 cnd b2
 (k .nils h)
 (oK (withElem env 34 (fun e ei => exBuildSlice 0 [] h e ei)) fun v3 h4 =>
 oK (builtinA env .append [34, 34] [v3, v_0] h4) fun v5 h6 =>
 k v5 h6)
noncomputable def z38 : J38 := ⟨fun _ _ => False⟩
noncomputable def r38 (c : Caller Prop FT) (k : KV) (m : Nat) : J38 := Nat.rec z38 (fun _ J => ⟨s38_0 c k J⟩) m
noncomputable def f38 (J : J38) : Jump := fun L f h => match L with
  | 0 => J.a0 (f 0) h
  | _ => False
noncomputable def u38 : Cuts := [(.root, 0)]
noncomputable def d39 : Code := Option.rec .skip (fun c => c) Go.Proofs.Tryz.f39.body
noncomputable def q39 : Plans := []
structure J39 where
  a0 : Nat → Nat → H → Prop
noncomputable def s39_0 (c : Caller Prop FT) (k : KV) (_J : J39) (l_0 : Nat) (c_0 : Nat) (h : H) : Prop :=
 cnd (iblt (Int.ofNat 65536) (Int.ofNat l_0))
 (k (.tuple [.nilp, (.int .i64 (Int.ofNat 4))]) h)
 (c (.func 63) [(.str l_0 c_0)] h fun v1 h2 =>
 c (.func 62) [v1] h2 fun v3 h4 =>
 k (.tuple [v3, (.int .i64 (Int.ofNat 0))]) h4)
noncomputable def z39 : J39 := ⟨fun _ _ _ => False⟩
noncomputable def r39 (c : Caller Prop FT) (k : KV) (m : Nat) : J39 := Nat.rec z39 (fun _ J => ⟨s39_0 c k J⟩) m
noncomputable def f39 (J : J39) : Jump := fun L f h => match L with
  | 0 => asS (f 0) fun l_0 c_0 => J.a0 l_0 c_0 h
  | _ => False
noncomputable def u39 : Cuts := [(.root, 0)]
noncomputable def d40 : Code := Option.rec .skip (fun c => c) Go.Proofs.Tryz.f40.body
noncomputable def q40 : Plans := []
structure J40 where
  a0 : AV → Nat → Nat → AV → Int → H → Prop
noncomputable def s40_0 (c : Caller Prop FT) (k : KV) (_J : J40) (v_0 : AV) (l_1 : Nat) (c_1 : Nat) (v_2 : AV) (n_3 : Int) (h : H) : Prop :=
 cnd (ibeq n_3 (Int.ofNat 0))
 (oK (exNil v_0 h) fun v1 h2 =>
 fAddr 1 v1 fun v3 =>
 ld1 v3 h2 fun v4 =>
 oK (exMapUpdate env 89 v4 (.str l_1 c_1) v_2 h2) fun _ h6 =>
 c (.func 64) [v_0, (.str l_1 c_1)] h6 fun _ h8 =>
 k (.int .i64 n_3) h8)
 (k (.int .i64 n_3) h)
noncomputable def z40 : J40 := ⟨fun _ _ _ _ _ _ => False⟩
noncomputable def r40 (c : Caller Prop FT) (k : KV) (m : Nat) : J40 := Nat.rec z40 (fun _ J => ⟨s40_0 c k J⟩) m
noncomputable def f40 (J : J40) : Jump := fun L f h => match L with
  | 0 => asS (f 1) fun l_1 c_1 => asI .i64 (f 3) fun n_3 => J.a0 (f 0) l_1 c_1 (f 2) n_3 h
  | _ => False
noncomputable def u40 : Cuts := [(.root, 0)]
noncomputable def d41 : Code := Option.rec .skip (fun c => c) Go.Proofs.Tryz.f41.body
noncomputable def q41 : Plans := [(4, [0, 1, 2, 3, 4, 5, 6, 7, 8, 9, 10, 11, 12, 13, 14, 15, 16, 17, 18, 19, 20, 21])]
structure J41 where
  a0 : AV → Nat → Nat → H → Prop
  a1 : AV → Nat → Nat → Int → H → Prop
noncomputable def s41_0 (_c : Caller Prop FT) (_k : KV) (J : J41) (v_0 : AV) (l_1 : Nat) (c_1 : Nat) (h : H) : Prop :=
 J.a1 v_0 l_1 c_1 (Int.ofNat 0) h
noncomputable def s41_1 (_c : Caller Prop FT) (k : KV) (J : J41) (v_0 : AV) (l_1 : Nat) (c_1 : Nat) (n_6 : Int) (h : H) : Prop :=
 oK (exNil v_0 h) fun v1 h2 =>
 fAddr 1 v1 fun v3 =>
 ld1 v3 h2 fun v4 =>
 lenV v4 fun m5 =>
 joinB (fun k6 => gate true (iblt n_6 (Int.ofNat m5))
 (oK (exNil v_0 h2) fun v9 h10 =>
 fAddr 1 v9 fun v11 =>
 ld1 v11 h10 fun v12 =>
 natI n_6 fun m13 =>
 elemA 2 m13 v12 fun v14 =>
 fAddr 0 v14 fun v15 =>
 ld1 v15 h10 fun v16 =>
 asS v16 fun l17 c18 =>
 k6 (ltS l17 c18 l_1 c_1) h10)
 (k6 false h2)) fun b8 h7 =>
 cnd b8
 (fI (wrap .i64 (iadd n_6 (Int.ofNat 1))) fun n19 =>
 J.a1 v_0 l_1 c_1 n19 h7)
 (oK (exNil v_0 h7) fun v20 h21 =>
 fAddr 1 v20 fun v22 =>
 ld1 v22 h21 fun v23 =>
 lenV v23 fun m24 =>
 joinB (fun k25 => gate true (iblt n_6 (Int.ofNat m24))
 (oK (exNil v_0 h21) fun v28 h29 =>
 fAddr 1 v28 fun v30 =>
 ld1 v30 h29 fun v31 =>
 natI n_6 fun m32 =>
 elemA 2 m32 v31 fun v33 =>
 fAddr 0 v33 fun v34 =>
 ld1 v34 h29 fun v35 =>
 asS v35 fun l36 c37 =>
 k25 (strEq l36 c37 l_1 c_1) h29)
 (k25 false h21)) fun b27 h26 =>
 k (.tuple [(.int .i64 n_6), (.bool b27)]) h26)
noncomputable def z41 : J41 := ⟨fun _ _ _ _ => False, fun _ _ _ _ _ => False⟩
noncomputable def r41 (c : Caller Prop FT) (k : KV) (m : Nat) : J41 := Nat.rec z41 (fun _ J => ⟨s41_0 c k J, s41_1 c k J⟩) m
noncomputable def f41 (J : J41) : Jump := fun L f h => match L with
  | 0 => asS (f 1) fun l_1 c_1 => J.a0 (f 0) l_1 c_1 h
  | 1 => asS (f 1) fun l_1 c_1 => asI .i64 (f 6) fun n_6 => J.a1 (f 0) l_1 c_1 n_6 h
  | _ => False
noncomputable def u41 : Cuts := [(.root, 0), ((.l (.l (.r (.r .root)))), 1)]
noncomputable def d42 : Code := Option.rec .skip (fun c => c) Go.Proofs.Tryz.f42.body
noncomputable def q42 : Plans := []
structure J42 where
  a0 : Nat → Nat → H → Prop
  a1 : AV → Int → H → Prop
noncomputable def s42_0 (c : Caller Prop FT) (k : KV) (J : J42) (l_0 : Nat) (c_0 : Nat) (h : H) : Prop :=
 cnd (iblt (Int.ofNat 80) (Int.ofNat l_0))
 (k (.bool false) h)
 (c (.func 65) [(.str l_0 c_0)] h fun v1 h2 =>
 J.a1 v1 (Int.ofNat 0) h2)
noncomputable def s42_1 (c : Caller Prop FT) (k : KV) (J : J42) (v_3 : AV) (n_4 : Int) (h : H) : Prop :=
 lenV v_3 fun m3 =>
 cnd (iblt n_4 (Int.ofNat m3))
 (natI n_4 fun m4 =>
 elemA 1 m4 v_3 fun v5 =>
 ld1 v5 h fun v6 =>
 asS v6 fun l7 c8 =>
 c (.func 66) [(.str l7 c8)] h fun v9 h10 =>
 asB v9 fun b11 =>
 cnd (bnot b11)
 (k (.bool false) h10)
 (fI (wrap .i64 (iadd n_4 (Int.ofNat 1))) fun n12 =>
 J.a1 v_3 n12 h10))
 (k (.bool true) h)
noncomputable def z42 : J42 := ⟨fun _ _ _ => False, fun _ _ _ => False⟩
noncomputable def r42 (c : Caller Prop FT) (k : KV) (m : Nat) : J42 := Nat.rec z42 (fun _ J => ⟨s42_0 c k J, s42_1 c k J⟩) m
noncomputable def f42 (J : J42) : Jump := fun L f h => match L with
  | 0 => asS (f 0) fun l_0 c_0 => J.a0 l_0 c_0 h
  | 1 => asI .i64 (f 4) fun n_4 => J.a1 (f 3) n_4 h
  | _ => False
noncomputable def u42 : Cuts := [(.root, 0), ((.l (.r (.l (.r (.r (.r .root)))))), 1)]
noncomputable def d43 : Code := Option.rec .skip (fun c => c) Go.Proofs.Tryz.f43.body
noncomputable def q43 : Plans := []
structure J43 where
  a0 : AV → Nat → Nat → Nat → Nat → H → Prop
  a1 : AV → Nat → Nat → Nat → Nat → Int → AV → H → Prop
noncomputable def s43_0 (c : Caller Prop FT) (_k : KV) (J : J43) (v_0 : AV) (l_1 : Nat) (c_1 : Nat) (l_2 : Nat) (c_2 : Nat) (h : H) : Prop :=
 c (.func 41) [v_0, (.str l_1 c_1)] h fun v1 h2 =>
 ext 0 v1 fun v3 =>
 asI .i64 v3 fun n4 =>
 ext 1 v1 fun v5 =>
 asB v5 fun b6 =>
 oK (exNil v_0 h2) fun v7 h8 =>
 fAddr 1 v7 fun v9 =>
 ld1 v9 h8 fun v10 =>
 oK (slice3 env h8 69 v10 (some (natOf (.int .i64 n4))) none none) fun v11 h12 =>
 cnd b6
 (oK (exNil v_0 h12) fun v13 h14 =>
 fAddr 1 v13 fun v15 =>
 ld1 v15 h14 fun v16 =>
 fI (wrap .i64 (iadd n4 (Int.ofNat 1))) fun n17 =>
 oK (slice3 env h14 69 v16 (some (natOf (.int .i64 n17))) none none) fun v18 h19 =>
 J.a1 v_0 l_1 c_1 l_2 c_2 n4 v18 h19)
 (J.a1 v_0 l_1 c_1 l_2 c_2 n4 v11 h12)
noncomputable def s43_1 (c : Caller Prop FT) (k : KV) (_J : J43) (v_0 : AV) (l_1 : Nat) (c_1 : Nat) (l_2 : Nat) (c_2 : Nat) (n_6 : Int) (v_8 : AV) (h : H) : Prop :=
 oK (withElem env 69 (fun e ei => exBuildSlice 0 [] h e ei)) fun v20 h21 =>
 oK (exNil v_0 h21) fun v22 h23 =>
 fAddr 1 v22 fun v24 =>
 ld1 v24 h23 fun v25 =>
 oK (slice3 env h23 69 v25 none (some (natOf (.int .i64 n_6))) none) fun v26 h27 =>
 oK (builtinA env .append [69, 69] [v20, v26] h27) fun v28 h29 =>
 oK (exBuild env (env.ty 140) [(0, (.str l_1 c_1)), (1, (.str l_2 c_2))] h29) fun v30 h31 =>
 oK (withElem env 69 (fun e ei => exBuildSlice 1 [(0, v30)] h31 e ei)) fun v32 h33 =>
 oK (builtinA env .append [69, 69] [v28, v32] h33) fun v34 h35 =>
 oK (builtinA env .append [69, 69] [v34, v_8] h35) fun v36 h37 =>
 oK (exNil v_0 h37) fun v38 h39 =>
 fAddr 1 v38 fun v40 =>
 st1 v40 v36 h39 fun h41 =>
 c (.func 67) [v_0, (.str l_1 c_1)] h41 fun _ h43 =>
 k (.tuple []) h43
noncomputable def z43 : J43 := ⟨fun _ _ _ _ _ _ => False, fun _ _ _ _ _ _ _ _ => False⟩
noncomputable def r43 (c : Caller Prop FT) (k : KV) (m : Nat) : J43 := Nat.rec z43 (fun _ J => ⟨s43_0 c k J, s43_1 c k J⟩) m
noncomputable def f43 (J : J43) : Jump := fun L f h => match L with
  | 0 => asS (f 1) fun l_1 c_1 => asS (f 2) fun l_2 c_2 => J.a0 (f 0) l_1 c_1 l_2 c_2 h
  | 1 => asS (f 1) fun l_1 c_1 => asS (f 2) fun l_2 c_2 => asI .i64 (f 6) fun n_6 => J.a1 (f 0) l_1 c_1 l_2 c_2 n_6 (f 8) h
  | _ => False
noncomputable def u43 : Cuts := [(.root, 0), ((.r (.r (.r .root))), 1)]
noncomputable def d44 : Code := Option.rec .skip (fun c => c) Go.Proofs.Tryz.f44.body
noncomputable def q44 : Plans := []
structure J44 where
  a0 : AV → Nat → Nat → H → Prop
noncomputable def s44_0 (_c : Caller Prop FT) (k : KV) (_J : J44) (v_0 : AV) (l_1 : Nat) (c_1 : Nat) (h : H) : Prop :=
 oV (binA env .eql 25 v_0 .nilp) fun v1 =>
 asB v1 fun b2 =>
 cnd b2
 (k (.tuple [.nilp, (.bool false)]) h)
 (oK (exNil v_0 h) fun v3 h4 =>
 fAddr 1 v3 fun v5 =>
 ld1 v5 h4 fun v6 =>
 oK (exLookup env 89 v6 (.str l_1 c_1) true h4) fun v7 h8 =>
 ext 0 v7 fun v9 =>
 ext 1 v7 fun v10 =>
 asB v10 fun b11 =>
 k (.tuple [v9, (.bool b11)]) h8)
noncomputable def z44 : J44 := ⟨fun _ _ _ _ => False⟩
noncomputable def r44 (c : Caller Prop FT) (k : KV) (m : Nat) : J44 := Nat.rec z44 (fun _ J => ⟨s44_0 c k J⟩) m
noncomputable def f44 (J : J44) : Jump := fun L f h => match L with
  | 0 => asS (f 1) fun l_1 c_1 => J.a0 (f 0) l_1 c_1 h
  | _ => False
noncomputable def u44 : Cuts := [(.root, 0)]
noncomputable def d45 : Code := Option.rec .skip (fun c => c) Go.Proofs.Tryz.f45.body
noncomputable def q45 : Plans := []
structure J45 where
  a0 : H → Prop
noncomputable def s45_0 (_c : Caller Prop FT) (k : KV) (_J : J45) (h : H) : Prop :=
 Hp.newK h (.map [] 0) fun p1 h2 =>
 oK (exBuild env (env.ty 153) [(0, (.map p1))] h2) fun v3 h4 =>
 asG v3 fun g5 =>
 chk (Nat.ble 1 (len g5)) <|
 Hp.newK h4 (rowOf 153 g5) fun p6 h7 =>
 k (.ptr p6 0) h7
noncomputable def z45 : J45 := ⟨fun _ => False⟩
noncomputable def r45 (c : Caller Prop FT) (k : KV) (m : Nat) : J45 := Nat.rec z45 (fun _ J => ⟨s45_0 c k J⟩) m
noncomputable def f45 (J : J45) : Jump := fun L _ h => match L with
  | 0 => J.a0 h
  | _ => False
noncomputable def u45 : Cuts := [(.root, 0)]
noncomputable def d46 : Code := Option.rec .skip (fun c => c) Go.Proofs.Tryz.f46.body
noncomputable def q46 : Plans := []
structure J46 where
  a0 : Int → H → Prop
noncomputable def s46_0 (c : Caller Prop FT) (k : KV) (_J : J46) (n_0 : Int) (h : H) : Prop :=
 oK (exBuild env (env.ty 160) [] h) fun v1 h2 =>
 asG v1 fun g3 =>
 chk (Nat.ble 1 (len g3)) <|
 Hp.newK h2 (rowOf 160 g3) fun p4 h5 =>
 oK (exNil (.ptr p4 0) h5) fun v6 h7 =>
 fAddr 0 v6 fun v8 =>
 oK (builtinA env .max [3, 3] [(.int .i64 n_0), (.int .i64 (Int.ofNat 0))] h7) fun v9 h10 =>
 asI .i64 v9 fun n11 =>
 c (.func 68) [v8, (.int .i64 n11)] h10 fun _ h13 =>
 k (.ptr p4 0) h13
noncomputable def z46 : J46 := ⟨fun _ _ => False⟩
noncomputable def r46 (c : Caller Prop FT) (k : KV) (m : Nat) : J46 := Nat.rec z46 (fun _ J => ⟨s46_0 c k J⟩) m
noncomputable def f46 (J : J46) : Jump := fun L f h => match L with
  | 0 => asI .i64 (f 0) fun n_0 => J.a0 n_0 h
  | _ => False
noncomputable def u46 : Cuts := [(.root, 0)]
noncomputable def d47 : Code := Option.rec .skip (fun c => c) Go.Proofs.Tryz.f47.body
noncomputable def q47 : Plans := [(1, [0, 1, 2, 3, 4, 5, 6, 9, 7, 8, 10]), (5, [0, 1, 2, 3, 4, 5, 6, 7, 8, 9, 10, 11, 12])]
structure J47 where
  a0 : AV → Nat → Nat → H → Prop
  a1 : AV → AV → Int → Int → H → Prop
  a2 : AV → AV → H → Prop
noncomputable def s47_0 (c : Caller Prop FT) (_k : KV) (J : J47) (v_0 : AV) (l_1 : Nat) (c_1 : Nat) (h : H) : Prop :=
 oK (exNil v_0 h) fun v1 h2 =>
 fAddr 0 v1 fun v3 =>
 ld1 v3 h2 fun v4 =>
 c (.func 44) [v4, (.str l_1 c_1)] h2 fun v5 h6 =>
 ext 0 v5 fun v7 =>
 ext 1 v5 fun v8 =>
 asB v8 fun _ =>
 oK (exNil v_0 h6) fun v10 h11 =>
 fAddr 4 v10 fun v12 =>
 fAddr 0 v12 fun v13 =>
 ld1 v13 h11 fun v14 =>
 Hp.newK h11 ob117 fun p15 h16 =>
 ld1 v13 h16 fun v17 =>
 eqC v17 v14 <|
 c (.func 56) [v7] h16 fun v18 h19 =>
 asS v18 fun l20 c21 =>
 ld1 v13 h19 fun v22 =>
 eqC v22 v14 <|
 callV (CP env) c v14 [(.str l_1 c_1), (.str l20 c21)] h19 fun v23 h24 =>
 stn 3 (.ptr p15 0) v23 h24 fun h25 =>
 fAddr 2 (.ptr p15 0) fun v26 =>
 ld1 v26 h25 fun v27 =>
 oK (exBuild env (env.ty 121) [(0, (.str l_1 c_1)), (1, v27)] h25) fun v28 h29 =>
 oK (exBuild env (env.ty 167) [(0, v_0), (1, (.str l_1 c_1)), (2, v28)] h29) fun v30 h31 =>
 asG v30 fun g32 =>
 chk (Nat.ble 1 (len g32)) <|
 Hp.newK h31 (rowOf 167 g32) fun p33 h34 =>
 oK (exNil v_0 h34) fun v35 h36 =>
 fAddr 13 v35 fun v37 =>
 ld1 v37 h36 fun v38 =>
 oK (exLookup env 107 v38 (.str l_1 c_1) false h36) fun v39 h40 =>
 asI .i64 v39 fun n41 =>
 fI (wrap .i64 (iadd n41 (Int.ofNat 1))) fun n42 =>
 oK (exMapUpdate env 107 v38 (.str l_1 c_1) (.int .i64 n42) h40) fun _ h44 =>
 oK (exNil v_0 h44) fun v45 h46 =>
 fAddr 15 v45 fun v47 =>
 ld1 v47 h46 fun v48 =>
 asI .i64 v48 fun n49 =>
 fI (wrap .i64 (iadd n49 (Int.ofNat 1))) fun n50 =>
 oK (exNil v_0 h46) fun v51 h52 =>
 fAddr 15 v51 fun v53 =>
 st1 v53 (.int .i64 n50) h52 fun h54 =>
 oK (exNil v_0 h54) fun v55 h56 =>
 fAddr 8 v55 fun v57 =>
 fAddr 1 v57 fun v58 =>
 ld1 v58 h56 fun v59 =>
 fAddr 1 (.ptr p15 0) fun v60 =>
 ld1 v60 h56 fun v61 =>
 oK (builtinA env .append [33, 33] [v59, v61] h56) fun v62 h63 =>
 oK (exNil v_0 h63) fun v64 h65 =>
 fAddr 8 v64 fun v66 =>
 fAddr 1 v66 fun v67 =>
 st1 v67 v62 h65 fun h68 =>
 fAddr 0 (.ptr p15 0) fun v69 =>
 ld1 v69 h68 fun v70 =>
 c (.func 69) [(.ptr p33 0), v70] h68 fun _ h72 =>
 J.a2 v_0 (.ptr p33 0) h72
noncomputable def s47_1 (c : Caller Prop FT) (k : KV) (J : J47) (v_0 : AV) (v_69 : AV) (n_70 : Int) (n_71 : Int) (h : H) : Prop :=
 cnd (iblt n_71 n_70)
 (natI n_71 fun m73 =>
 elemA 1 m73 v_69 fun v74 =>
 ld1 v74 h fun v75 =>
 oK (exNil v75 h) fun v76 h77 =>
 fAddr 3 v76 fun v78 =>
 ld1 v78 h77 fun v79 =>
 asB v79 fun b80 =>
 joinB (fun k81 => gate true (bnot b80)
 (oK (exNil v_0 h77) fun v84 h85 =>
 fAddr 8 v84 fun v86 =>
 fAddr 4 v86 fun v87 =>
 ld1 v87 h85 fun v88 =>
 asB v88 fun b89 =>
 k81 (bnot b89) h85)
 (k81 false h77)) fun b83 h82 =>
 cnd b83
 (oK (exNil v75 h82) fun v90 h91 =>
 fAddr 0 v90 fun v92 =>
 ldn 3 v92 h91 fun v93 =>
 c (.func 70) [v_0, (.int .i64 (Int.ofNat 13)), v93] h91 fun _ h95 =>
 fI (wrap .i64 (iadd n_71 (Int.ofNat 1))) fun n96 =>
 J.a1 v_0 v_69 n_70 n96 h95)
 (fI (wrap .i64 (iadd n_71 (Int.ofNat 1))) fun n97 =>
 J.a1 v_0 v_69 n_70 n97 h82))
 (oK (exNil v_0 h) fun v98 h99 =>
 fAddr 15 v98 fun v100 =>
 ld1 v100 h99 fun v101 =>
 asI .i64 v101 fun n102 =>
 fI (wrap .i64 (isub n102 (Int.ofNat 1))) fun n103 =>
 oK (exNil v_0 h99) fun v104 h105 =>
 fAddr 15 v104 fun v106 =>
 st1 v106 (.int .i64 n103) h105 fun h107 =>
 k (.tuple []) h107)
noncomputable def s47_2 (_c : Caller Prop FT) (_k : KV) (J : J47) (v_0 : AV) (v_7 : AV) (h : H) : Prop :=
 oK (exNil v_7 h) fun v108 h109 =>
 fAddr 5 v108 fun v110 =>
 ld1 v110 h109 fun v111 =>
 lenV v111 fun m112 =>
 J.a1 v_0 v111 (Int.ofNat m112) (Int.ofNat 0) h109
noncomputable def z47 : J47 := ⟨fun _ _ _ _ => False, fun _ _ _ _ _ => False, fun _ _ _ => False⟩
noncomputable def r47 (c : Caller Prop FT) (k : KV) (m : Nat) : J47 := Nat.rec z47 (fun _ J => ⟨s47_0 c k J, s47_1 c k J, s47_2 c k J⟩) m
noncomputable def f47 (J : J47) : Jump := fun L f h => match L with
  | 0 => asS (f 1) fun l_1 c_1 => J.a0 (f 0) l_1 c_1 h
  | 1 => asI .i64 (f 70) fun n_70 => asI .i64 (f 71) fun n_71 => J.a1 (f 0) (f 69) n_70 n_71 h
  | 2 => J.a2 (f 0) (f 7) h
  | _ => False
noncomputable def u47 : Cuts := [(.root, 0), ((.l (.r (.l (.r (.r (.r (.r (.r (.r (.r .root)))))))))), 1), ((.r (.r (.r (.r (.r (.r (.r .root))))))), 2)]
noncomputable def d48 : Code := Option.rec .skip (fun c => c) Go.Proofs.Tryz.f48.body
noncomputable def q48 : Plans := []
structure J48 where
  a0 : AV → H → Prop
noncomputable def s48_0 (c : Caller Prop FT) (k : KV) (_J : J48) (v_0 : AV) (h : H) : Prop :=
 c (.func 71) [v_0] h fun v1 h2 =>
 c (.func 72) [v1] h2 fun _ h4 =>
 k v1 h4
noncomputable def z48 : J48 := ⟨fun _ _ => False⟩
noncomputable def r48 (c : Caller Prop FT) (k : KV) (m : Nat) : J48 := Nat.rec z48 (fun _ J => ⟨s48_0 c k J⟩) m
noncomputable def f48 (J : J48) : Jump := fun L f h => match L with
  | 0 => J.a0 (f 0) h
  | _ => False
noncomputable def u48 : Cuts := [(.root, 0)]
noncomputable def d49 : Code := Option.rec .skip (fun c => c) Go.Proofs.Tryz.f49.body
noncomputable def q49 : Plans := []
structure J49 where
  a0 : AV → H → Prop
noncomputable def s49_0 (_c : Caller Prop FT) (k : KV) (_J : J49) (v_0 : AV) (h : H) : Prop :=
 one v_0 <|
 Hp.newK h (rowOf 107 [v_0]) fun p1 h2 =>
 k (.func (.func 73) [] [(.ptr p1 0)]) h2
noncomputable def z49 : J49 := ⟨fun _ _ => False⟩
noncomputable def r49 (c : Caller Prop FT) (k : KV) (m : Nat) : J49 := Nat.rec z49 (fun _ J => ⟨s49_0 c k J⟩) m
noncomputable def f49 (J : J49) : Jump := fun L f h => match L with
  | 0 => J.a0 (f 0) h
  | _ => False
noncomputable def u49 : Cuts := [(.root, 0)]
noncomputable def d50 : Code := Option.rec .skip (fun c => c) Go.Proofs.Tryz.f50.body
noncomputable def q50 : Plans := [(3, [0, 1, 2, 3, 4, 5, 6, 7, 8, 9]), (6, [0, 1, 2, 3, 4, 5, 6, 7, 8, 9]), (7, [0, 1, 2, 3, 4, 5, 6, 7, 8, 9, 10, 11, 12]), (13, [0, 1, 2, 3, 4, 5, 6])]
structure J50 where
  a0 : Nat → Nat → Nat → Nat → H → Prop
  a1 : Nat → Nat → AV → AV → Int → H → Prop
  a2 : Nat → Nat → AV → AV → AV → H → Prop
  a3 : AV → AV → H → Prop
noncomputable def s50_0 (c : Caller Prop FT) (_k : KV) (J : J50) (l_0 : Nat) (c_0 : Nat) (l_1 : Nat) (c_1 : Nat) (h : H) : Prop :=
 c (.func 74) [(.str l_1 c_1)] h fun v1 h2 =>
 oK (exBuild env (env.ty 178) [(0, (.str l_0 c_0)), (1, v1), (5, (.int .i64 (Int.negSucc 0)))] h2) fun v3 h4 =>
 asG v3 fun g5 =>
 chk (Nat.ble 1 (len g5)) <|
 Hp.newK h4 (rowOf 178 g5) fun p6 h7 =>
 J.a1 l_1 c_1 .nils (.ptr p6 0) (Int.ofNat 0) h7
noncomputable def s50_1 (c : Caller Prop FT) (_k : KV) (J : J50) (l_1 : Nat) (c_1 : Nat) (v_4 : AV) (v_6 : AV) (n_7 : Int) (h : H) : Prop :=
 oK (exNil v_6 h) fun v8 h9 =>
 fAddr 2 v8 fun v10 =>
 ld1 v10 h9 fun v11 =>
 asI .i64 v11 fun n12 =>
 oK (exNil v_6 h9) fun v13 h14 =>
 fAddr 1 v13 fun v15 =>
 ld1 v15 h14 fun v16 =>
 lenV v16 fun m17 =>
 cnd (iblt n12 (Int.ofNat m17))
 (c (.func 75) [v_6] h14 fun v18 h19 =>
 Hp.newK h19 ob165 fun p20 h21 =>
 stn 4 (.ptr p20 0) v18 h21 fun h22 =>
 fAddr 1 (.ptr p20 0) fun v23 =>
 st1 v23 (.int .i64 n_7) h22 fun h24 =>
 fAddr 2 (.ptr p20 0) fun v25 =>
 st1 v25 (.int .i64 (Int.ofNat l_1)) h24 fun h26 =>
 oK (exNil v_6 h26) fun v27 h28 =>
 fAddr 2 v27 fun v29 =>
 ld1 v29 h28 fun v30 =>
 asI .i64 v30 fun n31 =>
 oK (exNil v_6 h28) fun v32 h33 =>
 fAddr 1 v32 fun v34 =>
 ld1 v34 h33 fun v35 =>
 lenV v35 fun m36 =>
 cnd (iblt n31 (Int.ofNat m36))
 (oK (exNil v_6 h33) fun v37 h38 =>
 fAddr 1 v37 fun v39 =>
 ld1 v39 h38 fun v40 =>
 oK (exNil v_6 h38) fun v41 h42 =>
 fAddr 2 v41 fun v43 =>
 ld1 v43 h42 fun v44 =>
 asI .i64 v44 fun n45 =>
 natI n45 fun m46 =>
 elemA 3 m46 v40 fun v47 =>
 fAddr 2 v47 fun v48 =>
 ld1 v48 h42 fun v49 =>
 asI .i64 v49 fun n50 =>
 fAddr 2 (.ptr p20 0) fun v51 =>
 st1 v51 (.int .i64 n50) h42 fun h52 =>
 J.a2 l_1 c_1 v_4 v_6 (.ptr p20 0) h52)
 (J.a2 l_1 c_1 v_4 v_6 (.ptr p20 0) h33))
 (lenV v_4 fun m53 =>
 cnd (iblt (Int.ofNat 0) (Int.ofNat m53))
 (lenV v_4 fun m54 =>
 fI (wrap .i64 (isub (Int.ofNat m54) (Int.ofNat 1))) fun n55 =>
 natI n55 fun m56 =>
 elemA 4 m56 v_4 fun v57 =>
 fAddr 2 v57 fun v58 =>
 st1 v58 (.int .i64 (Int.ofNat l_1)) h14 fun h59 =>
 J.a3 v_4 v_6 h59)
 (J.a3 v_4 v_6 h14))
noncomputable def s50_2 (_c : Caller Prop FT) (_k : KV) (J : J50) (l_1 : Nat) (c_1 : Nat) (v_4 : AV) (v_6 : AV) (v_8 : AV) (h : H) : Prop :=
 oK (exNil v_6 h) fun v60 h61 =>
 fAddr 2 v60 fun v62 =>
 ld1 v62 h61 fun v63 =>
 asI .i64 v63 fun n64 =>
 fI (wrap .i64 (iadd n64 (Int.ofNat 1))) fun n65 =>
 oK (exNil v_6 h61) fun v66 h67 =>
 fAddr 2 v66 fun v68 =>
 st1 v68 (.int .i64 n65) h67 fun h69 =>
 fAddr 2 v_8 fun v70 =>
 ld1 v70 h69 fun v71 =>
 asI .i64 v71 fun n72 =>
 ldn 4 v_8 h69 fun v73 =>
 oK (withElem env 115 (fun e ei => exBuildSlice 1 [(0, v73)] h69 e ei)) fun v74 h75 =>
 oK (builtinA env .append [115, 115] [v_4, v74] h75) fun v76 h77 =>
 J.a1 l_1 c_1 v76 v_6 n72 h77
noncomputable def s50_3 (_c : Caller Prop FT) (k : KV) (_J : J50) (v_4 : AV) (v_6 : AV) (h : H) : Prop :=
 oK (exNil v_6 h) fun v78 h79 =>
 fAddr 3 v78 fun v80 =>
 ld1 v80 h79 fun v81 =>
 k (.tuple [v_4, v81]) h79
noncomputable def z50 : J50 := ⟨fun _ _ _ _ _ => False, fun _ _ _ _ _ _ => False, fun _ _ _ _ _ _ => False, fun _ _ _ => False⟩
noncomputable def r50 (c : Caller Prop FT) (k : KV) (m : Nat) : J50 := Nat.rec z50 (fun _ J => ⟨s50_0 c k J, s50_1 c k J, s50_2 c k J, s50_3 c k J⟩) m
noncomputable def f50 (J : J50) : Jump := fun L f h => match L with
  | 0 => asS (f 0) fun l_0 c_0 => asS (f 1) fun l_1 c_1 => J.a0 l_0 c_0 l_1 c_1 h
  | 1 => asS (f 1) fun l_1 c_1 => asI .i64 (f 7) fun n_7 => J.a1 l_1 c_1 (f 4) (f 6) n_7 h
  | 2 => asS (f 1) fun l_1 c_1 => J.a2 l_1 c_1 (f 4) (f 6) (f 8) h
  | 3 => J.a3 (f 4) (f 6) h
  | _ => False
noncomputable def u50 : Cuts := [(.root, 0), ((.l (.l (.r (.r (.r .root))))), 1), ((.r (.r (.l (.r (.l (.l (.l (.r (.r (.r .root)))))))))), 2), ((.r (.r (.r (.r (.r .root))))), 3)]
noncomputable def d51 : Code := Option.rec .skip (fun c => c) Go.Proofs.Tryz.f51.body
noncomputable def q51 : Plans := []
structure J51 where
  a0 : AV → H → Prop
noncomputable def s51_0 (_c : Caller Prop FT) (k : KV) (_J : J51) (v_0 : AV) (h : H) : Prop :=
 one v_0 <|
 Hp.newK h (rowOf 32 [v_0]) fun p1 h2 =>
 k (.func (.func 76) [] [(.ptr p1 0)]) h2
noncomputable def z51 : J51 := ⟨fun _ _ => False⟩
noncomputable def r51 (c : Caller Prop FT) (k : KV) (m : Nat) : J51 := Nat.rec z51 (fun _ J => ⟨s51_0 c k J⟩) m
noncomputable def f51 (J : J51) : Jump := fun L f h => match L with
  | 0 => J.a0 (f 0) h
  | _ => False
noncomputable def u51 : Cuts := [(.root, 0)]
noncomputable def d52 : Code := Option.rec .skip (fun c => c) Go.Proofs.Tryz.f52.body
noncomputable def q52 : Plans := []
structure J52 where
  a0 : AV → H → Prop
noncomputable def s52_0 (_c : Caller Prop FT) (k : KV) (_J : J52) (v_0 : AV) (h : H) : Prop :=
 oV (binA env .eql 43 v_0 .nils) fun v1 =>
 asB v1 fun b2 =>
 cnd b2
 (k .nils h)
 (oK (withElem env 43 (fun e ei => exBuildSlice 0 [] h e ei)) fun v3 h4 =>
 oK (builtinA env .append [43, 43] [v3, v_0] h4) fun v5 h6 =>
 k v5 h6)
noncomputable def z52 : J52 := ⟨fun _ _ => False⟩
noncomputable def r52 (c : Caller Prop FT) (k : KV) (m : Nat) : J52 := Nat.rec z52 (fun _ J => ⟨s52_0 c k J⟩) m
noncomputable def f52 (J : J52) : Jump := fun L f h => match L with
  | 0 => J.a0 (f 0) h
  | _ => False
noncomputable def u52 : Cuts := [(.root, 0)]
noncomputable def d53 : Code := Option.rec .skip (fun c => c) Go.Proofs.Tryz.f53.body
noncomputable def q53 : Plans := [(3, [0, 1, 2, 3, 4, 5, 6, 7, 8, 9, 10, 11, 12, 13, 14])]
structure J53 where
  a0 : AV → H → Prop
  a1 : AV → H → Prop
noncomputable def s53_0 (_c : Caller Prop FT) (_k : KV) (J : J53) (v_0 : AV) (h : H) : Prop :=
 J.a1 v_0 h
noncomputable def s53_1 (c : Caller Prop FT) (k : KV) (J : J53) (v_0 : AV) (h : H) : Prop :=
 oK (exNil v_0 h) fun v1 h2 =>
 fAddr 2 v1 fun v3 =>
 ld1 v3 h2 fun v4 =>
 lenV v4 fun m5 =>
 joinB (fun k6 => gate true (iblt (Int.ofNat 0) (Int.ofNat m5))
 (oK (exNil v_0 h2) fun v9 h10 =>
 fAddr 0 v9 fun v11 =>
 ld1 v11 h10 fun v12 =>
 oK (exNil v12 h10) fun v13 h14 =>
 fAddr 7 v13 fun v15 =>
 ld1 v15 h14 fun v16 =>
 asB v16 fun b17 =>
 k6 (bnot b17) h14)
 (k6 false h2)) fun b8 h7 =>
 cnd b8
 (c (.func 77) [v_0, (.int .i64 (Int.ofNat 0))] h7 fun v18 h19 =>
 Hp.newK h19 ob136 fun p20 h21 =>
 stn 9 (.ptr p20 0) v18 h21 fun h22 =>
 oK (exNil v_0 h22) fun v23 h24 =>
 fAddr 2 v23 fun v25 =>
 ld1 v25 h24 fun v26 =>
 oK (exNil v_0 h24) fun v27 h28 =>
 fAddr 2 v27 fun v29 =>
 ld1 v29 h28 fun v30 =>
 lenV v30 fun m31 =>
 fI (wrap .i64 (isub (Int.ofNat m31) (Int.ofNat 1))) fun n32 =>
 oK (slice3 env h28 128 v26 none (some (natOf (.int .i64 n32))) none) fun v33 h34 =>
 oK (exNil v_0 h34) fun v35 h36 =>
 fAddr 2 v35 fun v37 =>
 st1 v37 v33 h36 fun h38 =>
 ldn 9 (.ptr p20 0) h38 fun v39 =>
 c (.func 78) [v_0, v39] h38 fun _ h41 =>
 J.a1 v_0 h41)
 (oK (exNil v_0 h7) fun v42 h43 =>
 fAddr 3 v42 fun v44 =>
 ld1 v44 h43 fun v45 =>
 k v45 h43)
noncomputable def z53 : J53 := ⟨fun _ _ => False, fun _ _ => False⟩
noncomputable def r53 (c : Caller Prop FT) (k : KV) (m : Nat) : J53 := Nat.rec z53 (fun _ J => ⟨s53_0 c k J, s53_1 c k J⟩) m
noncomputable def f53 (J : J53) : Jump := fun L f h => match L with
  | 0 => J.a0 (f 0) h
  | 1 => J.a1 (f 0) h
  | _ => False
noncomputable def u53 : Cuts := [(.root, 0), ((.l (.l (.r .root))), 1)]
noncomputable def d54 : Code := Option.rec .skip (fun c => c) Go.Proofs.Tryz.f54.body
noncomputable def q54 : Plans := []
structure J54 where
  a0 : AV → H → Prop
noncomputable def s54_0 (_c : Caller Prop FT) (k : KV) (_J : J54) (v_0 : AV) (h : H) : Prop :=
 oV (binA env .eql 93 v_0 .nilp) fun v1 =>
 asB v1 fun b2 =>
 cnd b2
 (k (.int .i64 (Int.ofNat 0)) h)
 (oK (exNil v_0 h) fun v3 h4 =>
 fAddr 3 v3 fun v5 =>
 ld1 v5 h4 fun v6 =>
 asI .i64 v6 fun n7 =>
 k (.int .i64 n7) h4)
noncomputable def z54 : J54 := ⟨fun _ _ => False⟩
noncomputable def r54 (c : Caller Prop FT) (k : KV) (m : Nat) : J54 := Nat.rec z54 (fun _ J => ⟨s54_0 c k J⟩) m
noncomputable def f54 (J : J54) : Jump := fun L f h => match L with
  | 0 => J.a0 (f 0) h
  | _ => False
noncomputable def u54 : Cuts := [(.root, 0)]
noncomputable def d55 : Code := Option.rec .skip (fun c => c) Go.Proofs.Tryz.f55.body
noncomputable def q55 : Plans := []
structure J55 where
  a0 : Nat → Nat → Int → Int → H → Prop
  a1 : Int → Int → AV → AV → Int → Int → H → Prop
noncomputable def s55_0 (c : Caller Prop FT) (_k : KV) (J : J55) (l_0 : Nat) (c_0 : Nat) (n_1 : Int) (n_2 : Int) (h : H) : Prop :=
 Hp.newK h ob198 fun p1 h2 =>
 c (.func 79) [(.str l_0 c_0)] h2 fun v3 h4 =>
 lenV v3 fun m5 =>
 J.a1 n_1 n_2 (.ptr p1 0) v3 (Int.ofNat m5) (Int.ofNat 0) h4
noncomputable def s55_1 (c : Caller Prop FT) (k : KV) (J : J55) (n_1 : Int) (n_2 : Int) (v_7 : AV) (v_11 : AV) (n_12 : Int) (n_13 : Int) (h : H) : Prop :=
 cnd (iblt n_13 n_12)
 (natI n_13 fun m6 =>
 elemA 3 m6 v_11 fun v7 =>
 ldn 3 v7 h fun v8 =>
 Hp.newK h ob180 fun p9 h10 =>
 stn 3 (.ptr p9 0) v8 h10 fun h11 =>
 fAddr 1 (.ptr p9 0) fun v12 =>
 ld1 v12 h11 fun v13 =>
 asI .i64 v13 fun n14 =>
 joinB (fun k15 => gate true (ible n_1 n14)
 (fAddr 2 (.ptr p9 0) fun v18 =>
 ld1 v18 h11 fun v19 =>
 asI .i64 v19 fun n20 =>
 k15 (ible n20 n_2) h11)
 (k15 false h11)) fun b17 h16 =>
 cnd b17
 (fAddr 0 (.ptr p9 0) fun v21 =>
 ld1 v21 h16 fun v22 =>
 asI .u8 v22 fun n23 =>
 c (.func 80) [v_7, (.int .u8 n23)] h16 fun _ h25 =>
 fI (wrap .i64 (iadd n_13 (Int.ofNat 1))) fun n26 =>
 J.a1 n_1 n_2 v_7 v_11 n_12 n26 h25)
 (fI (wrap .i64 (iadd n_13 (Int.ofNat 1))) fun n27 =>
 J.a1 n_1 n_2 v_7 v_11 n_12 n27 h16))
 (c (.func 81) [v_7] h fun v28 h29 =>
 asS v28 fun l30 c31 =>
 k (.str l30 c31) h29)
noncomputable def z55 : J55 := ⟨fun _ _ _ _ _ => False, fun _ _ _ _ _ _ _ => False⟩
noncomputable def r55 (c : Caller Prop FT) (k : KV) (m : Nat) : J55 := Nat.rec z55 (fun _ J => ⟨s55_0 c k J, s55_1 c k J⟩) m
noncomputable def f55 (J : J55) : Jump := fun L f h => match L with
  | 0 => asS (f 0) fun l_0 c_0 => asI .i64 (f 1) fun n_1 => asI .i64 (f 2) fun n_2 => J.a0 l_0 c_0 n_1 n_2 h
  | 1 => asI .i64 (f 1) fun n_1 => asI .i64 (f 2) fun n_2 => asI .i64 (f 12) fun n_12 => asI .i64 (f 13) fun n_13 => J.a1 n_1 n_2 (f 7) (f 11) n_12 n_13 h
  | _ => False
noncomputable def u55 : Cuts := [(.root, 0), ((.l (.r (.l (.r (.r .root))))), 1)]
noncomputable def d56 : Code := Option.rec .skip (fun c => c) Go.Proofs.Tryz.f56.body
noncomputable def q56 : Plans := []
structure J56 where
  a0 : AV → H → Prop
noncomputable def s56_0 (c : Caller Prop FT) (k : KV) (_J : J56) (v_0 : AV) (h : H) : Prop :=
 Hp.newK h ob198 fun p1 h2 =>
 c (.func 82) [v_0, (.func (.func 83) [] [(.ptr p1 0)])] h2 fun _ h4 =>
 c (.func 81) [(.ptr p1 0)] h4 fun v5 h6 =>
 asS v5 fun l7 c8 =>
 k (.str l7 c8) h6
noncomputable def z56 : J56 := ⟨fun _ _ => False⟩
noncomputable def r56 (c : Caller Prop FT) (k : KV) (m : Nat) : J56 := Nat.rec z56 (fun _ J => ⟨s56_0 c k J⟩) m
noncomputable def f56 (J : J56) : Jump := fun L f h => match L with
  | 0 => J.a0 (f 0) h
  | _ => False
noncomputable def u56 : Cuts := [(.root, 0)]
noncomputable def d59 : Code := Option.rec .skip (fun c => c) Go.Proofs.Tryz.f59.body
noncomputable def q59 : Plans := []
structure J59 where
  a0 : Nat → Nat → Nat → Nat → H → Prop
noncomputable def s59_0 (c : Caller Prop FT) (k : KV) (_J : J59) (l_0 : Nat) (c_0 : Nat) (l_1 : Nat) (c_1 : Nat) (h : H) : Prop :=
 c (.func 86) [(.str l_0 c_0), (.str l_1 c_1), (.int .i64 (Int.ofNat 0))] h fun v1 h2 =>
 k v1 h2
noncomputable def z59 : J59 := ⟨fun _ _ _ _ _ => False⟩
noncomputable def r59 (c : Caller Prop FT) (k : KV) (m : Nat) : J59 := Nat.rec z59 (fun _ J => ⟨s59_0 c k J⟩) m
noncomputable def f59 (J : J59) : Jump := fun L f h => match L with
  | 0 => asS (f 0) fun l_0 c_0 => asS (f 1) fun l_1 c_1 => J.a0 l_0 c_0 l_1 c_1 h
  | _ => False
noncomputable def u59 : Cuts := [(.root, 0)]
noncomputable def d60 : Code := Option.rec .skip (fun c => c) Go.Proofs.Tryz.f60.body
noncomputable def q60 : Plans := []
structure J60 where
  a0 : Nat → Nat → H → Prop
  a1 : Nat → Nat → Bool → Int → H → Prop
noncomputable def s60_0 (_c : Caller Prop FT) (_k : KV) (J : J60) (l_0 : Nat) (c_0 : Nat) (h : H) : Prop :=
 joinB (fun k1 => gate true (bnot (strEq l_0 c_0 0 0))
 (k1 (ible (Int.ofNat l_0) (Int.ofNat 20)) h)
 (k1 false h)) fun b3 h2 =>
 joinB (fun k4 => gate true b3
 (k4 (bnot (strEq l_0 c_0 1 46)) h2)
 (k4 false h2)) fun b6 h5 =>
 joinB (fun k7 => gate true b6
 (k7 (bnot (strEq l_0 c_0 2 11822)) h5)
 (k7 false h5)) fun b9 h8 =>
 J.a1 l_0 c_0 b9 (Int.ofNat 0) h8
noncomputable def s60_1 (c : Caller Prop FT) (k : KV) (J : J60) (l_0 : Nat) (c_0 : Nat) (b_3 : Bool) (n_4 : Int) (h : H) : Prop :=
 joinB (fun k10 => gate true (iblt n_4 (Int.ofNat l_0))
 (k10 b_3 h)
 (k10 false h)) fun b12 h11 =>
 cnd b12
 (natI n_4 fun m13 =>
 idxS l_0 c_0 m13 fun m14 =>
 c (.func 87) [(.int .u8 (Int.ofNat m14))] h11 fun v15 h16 =>
 asB v15 fun b17 =>
 fI (wrap .i64 (iadd n_4 (Int.ofNat 1))) fun n18 =>
 J.a1 l_0 c_0 b17 n18 h16)
 (k (.bool b_3) h11)
noncomputable def z60 : J60 := ⟨fun _ _ _ => False, fun _ _ _ _ _ => False⟩
noncomputable def r60 (c : Caller Prop FT) (k : KV) (m : Nat) : J60 := Nat.rec z60 (fun _ J => ⟨s60_0 c k J, s60_1 c k J⟩) m
noncomputable def f60 (J : J60) : Jump := fun L f h => match L with
  | 0 => asS (f 0) fun l_0 c_0 => J.a0 l_0 c_0 h
  | 1 => asS (f 0) fun l_0 c_0 => asB (f 3) fun b_3 => asI .i64 (f 4) fun n_4 => J.a1 l_0 c_0 b_3 n_4 h
  | _ => False
noncomputable def u60 : Cuts := [(.root, 0), ((.l (.r (.l (.r (.r .root))))), 1)]
noncomputable def d61 : Code := Option.rec .skip (fun c => c) Go.Proofs.Tryz.f61.body
noncomputable def q61 : Plans := []
structure J61 where
  a0 : AV → AV → H → Prop
  a1 : AV → AV → Int → Int → H → Prop
noncomputable def s61_0 (_c : Caller Prop FT) (_k : KV) (J : J61) (v_0 : AV) (v_1 : AV) (h : H) : Prop :=
 lenV v_0 fun m1 =>
 J.a1 v_0 v_1 (Int.ofNat m1) (Int.ofNat 0) h
noncomputable def s61_1 (c : Caller Prop FT) (k : KV) (J : J61) (v_0 : AV) (v_1 : AV) (n_7 : Int) (n_8 : Int) (h : H) : Prop :=
 cnd (iblt n_8 n_7)
 (natI n_8 fun m2 =>
 elemA 1 m2 v_0 fun v3 =>
 ld1 v3 h fun v4 =>
 asS v4 fun l5 c6 =>
 callV (CP env) c v_1 [(.str l5 c6)] h fun v7 h8 =>
 asB v7 fun b9 =>
 cnd b9
 (k (.int .i64 n_8) h8)
 (fI (wrap .i64 (iadd n_8 (Int.ofNat 1))) fun n10 =>
 J.a1 v_0 v_1 n_7 n10 h8))
 (k (.int .i64 (Int.negSucc 0)) h)
noncomputable def z61 : J61 := ⟨fun _ _ _ => False, fun _ _ _ _ _ => False⟩
noncomputable def r61 (c : Caller Prop FT) (k : KV) (m : Nat) : J61 := Nat.rec z61 (fun _ J => ⟨s61_0 c k J, s61_1 c k J⟩) m
noncomputable def f61 (J : J61) : Jump := fun L f h => match L with
  | 0 => J.a0 (f 0) (f 1) h
  | 1 => asI .i64 (f 7) fun n_7 => asI .i64 (f 8) fun n_8 => J.a1 (f 0) (f 1) n_7 n_8 h
  | _ => False
noncomputable def u61 : Cuts := [(.root, 0), ((.l (.r (.l (.r .root)))), 1)]
noncomputable def d62 : Code := Option.rec .skip (fun c => c) Go.Proofs.Tryz.f62.body
noncomputable def q62 : Plans := []
structure J62 where
  a0 : AV → H → Prop
noncomputable def s62_0 (_c : Caller Prop FT) (k : KV) (_J : J62) (v_0 : AV) (h : H) : Prop :=
 oV (binA env .eql 93 v_0 .nilp) fun v1 =>
 asB v1 fun b2 =>
 cnd b2
 (oK (exBuild env (env.ty 195) [] h) fun v3 h4 =>
 asG v3 fun g5 =>
 chk (Nat.ble 1 (len g5)) <|
 Hp.newK h4 (rowOf 195 g5) fun p6 h7 =>
 k (.ptr p6 0) h7)
 (k v_0 h)
noncomputable def z62 : J62 := ⟨fun _ _ => False⟩
noncomputable def r62 (c : Caller Prop FT) (k : KV) (m : Nat) : J62 := Nat.rec z62 (fun _ J => ⟨s62_0 c k J⟩) m
noncomputable def f62 (J : J62) : Jump := fun L f h => match L with
  | 0 => J.a0 (f 0) h
  | _ => False
noncomputable def u62 : Cuts := [(.root, 0)]
noncomputable def d63 : Code := Option.rec .skip (fun c => c) Go.Proofs.Tryz.f63.body
noncomputable def q63 : Plans := [(4, [0, 1, 2, 4, 5, 6, 3, 7, 8, 9])]
structure J63 where
  a0 : Nat → Nat → H → Prop
noncomputable def s63_0 (c : Caller Prop FT) (k : KV) (_J : J63) (l_0 : Nat) (c_0 : Nat) (h : H) : Prop :=
 cnd (ible (Int.ofNat l_0) (Int.ofNat 256))
 (c (.func 88) [(.str l_0 c_0)] h fun v1 h2 =>
 k v1 h2)
 (quoI .i64 (Int.ofNat l_0) (Int.ofNat 2) fun n3 =>
 natI n3 fun m4 =>
 cutS l_0 c_0 0 m4 fun l5 c6 =>
 natI n3 fun m7 =>
 cutS l_0 c_0 m7 l_0 fun l8 c9 =>
 c (.func 63) [(.str l5 c6)] h fun v10 h11 =>
 c (.func 63) [(.str l8 c9)] h11 fun v12 h13 =>
 c (.func 89) [v10, v12] h13 fun v14 h15 =>
 k v14 h15)
noncomputable def z63 : J63 := ⟨fun _ _ _ => False⟩
noncomputable def r63 (c : Caller Prop FT) (k : KV) (m : Nat) : J63 := Nat.rec z63 (fun _ J => ⟨s63_0 c k J⟩) m
noncomputable def f63 (J : J63) : Jump := fun L f h => match L with
  | 0 => asS (f 0) fun l_0 c_0 => J.a0 l_0 c_0 h
  | _ => False
noncomputable def u63 : Cuts := [(.root, 0)]
noncomputable def d64 : Code := Option.rec .skip (fun c => c) Go.Proofs.Tryz.f64.body
noncomputable def q64 : Plans := []
structure J64 where
  a0 : AV → Nat → Nat → H → Prop
  a1 : AV → Nat → Nat → H → Prop
noncomputable def s64_0 (_c : Caller Prop FT) (_k : KV) (J : J64) (v_0 : AV) (l_1 : Nat) (c_1 : Nat) (h : H) : Prop :=
 oK (exNil v_0 h) fun v1 h2 =>
 fAddr 2 v1 fun v3 =>
 ld1 v3 h2 fun v4 =>
 oK (exLookup env 90 v4 (.str l_1 c_1) false h2) fun v5 h6 =>
 oV (binA env .eql 210 v5 .nilp) fun v7 =>
 asB v7 fun b8 =>
 cnd b8
 (oK (exNil v_0 h6) fun v9 h10 =>
 fAddr 2 v9 fun v11 =>
 ld1 v11 h10 fun v12 =>
 oK (exBuild env (env.ty 158) [] h10) fun v13 h14 =>
 asG v13 fun g15 =>
 chk (Nat.ble 1 (len g15)) <|
 Hp.newK h14 (rowOf 158 g15) fun p16 h17 =>
 oK (exMapUpdate env 90 v12 (.str l_1 c_1) (.ptr p16 0) h17) fun _ h19 =>
 J.a1 v_0 l_1 c_1 h19)
 (J.a1 v_0 l_1 c_1 h6)
noncomputable def s64_1 (c : Caller Prop FT) (k : KV) (_J : J64) (v_0 : AV) (l_1 : Nat) (c_1 : Nat) (h : H) : Prop :=
 oK (exNil v_0 h) fun v20 h21 =>
 fAddr 2 v20 fun v22 =>
 ld1 v22 h21 fun v23 =>
 oK (exLookup env 90 v23 (.str l_1 c_1) false h21) fun v24 h25 =>
 c (.func 90) [v24, (.int .i64 (Int.ofNat 1))] h25 fun v26 h27 =>
 asI .i64 v26 fun _ =>
 k (.tuple []) h27
noncomputable def z64 : J64 := ⟨fun _ _ _ _ => False, fun _ _ _ _ => False⟩
noncomputable def r64 (c : Caller Prop FT) (k : KV) (m : Nat) : J64 := Nat.rec z64 (fun _ J => ⟨s64_0 c k J, s64_1 c k J⟩) m
noncomputable def f64 (J : J64) : Jump := fun L f h => match L with
  | 0 => asS (f 1) fun l_1 c_1 => J.a0 (f 0) l_1 c_1 h
  | 1 => asS (f 1) fun l_1 c_1 => J.a1 (f 0) l_1 c_1 h
  | _ => False
noncomputable def u64 : Cuts := [(.root, 0), ((.r .root), 1)]
noncomputable def d65 : Code := Option.rec .skip (fun c => c) Go.Proofs.Tryz.f65.body
noncomputable def q65 : Plans := []
structure J65 where
  a0 : Nat → Nat → H → Prop
  a1 : Nat → Nat → AV → Int → Int → H → Prop
  a2 : Nat → Nat → AV → Int → Int → H → Prop
noncomputable def s65_0 (_c : Caller Prop FT) (_k : KV) (J : J65) (l_0 : Nat) (c_0 : Nat) (h : H) : Prop :=
 J.a1 l_0 c_0 .nils (Int.ofNat 0) (Int.ofNat 0) h
noncomputable def s65_1 (_c : Caller Prop FT) (k : KV) (J : J65) (l_0 : Nat) (c_0 : Nat) (v_3 : AV) (n_4 : Int) (n_5 : Int) (h : H) : Prop :=
 cnd (ible n_5 (Int.ofNat l_0))
 (joinB (fun k1 => gate false (ibeq n_5 (Int.ofNat l_0))
 (natI n_5 fun m4 =>
 idxS l_0 c_0 m4 fun m5 =>
 k1 (ibeq (Int.ofNat m5) (Int.ofNat 47)) h)
 (k1 true h)) fun b3 h2 =>
 cnd b3
 (natI n_5 fun m6 =>
 natI n_4 fun m7 =>
 cutS l_0 c_0 m7 m6 fun l8 c9 =>
 oK (withElem env 34 (fun e ei => exBuildSlice 1 [(0, (.str l8 c9))] h2 e ei)) fun v10 h11 =>
 oK (builtinA env .append [34, 34] [v_3, v10] h11) fun v12 h13 =>
 fI (wrap .i64 (iadd n_5 (Int.ofNat 1))) fun n14 =>
 J.a2 l_0 c_0 v12 n14 n_5 h13)
 (J.a2 l_0 c_0 v_3 n_4 n_5 h2))
 (k v_3 h)
noncomputable def s65_2 (_c : Caller Prop FT) (_k : KV) (J : J65) (l_0 : Nat) (c_0 : Nat) (v_3 : AV) (n_4 : Int) (n_5 : Int) (h : H) : Prop :=
 fI (wrap .i64 (iadd n_5 (Int.ofNat 1))) fun n15 =>
 J.a1 l_0 c_0 v_3 n_4 n15 h
noncomputable def z65 : J65 := ⟨fun _ _ _ => False, fun _ _ _ _ _ _ => False, fun _ _ _ _ _ _ => False⟩
noncomputable def r65 (c : Caller Prop FT) (k : KV) (m : Nat) : J65 := Nat.rec z65 (fun _ J => ⟨s65_0 c k J, s65_1 c k J, s65_2 c k J⟩) m
noncomputable def f65 (J : J65) : Jump := fun L f h => match L with
  | 0 => asS (f 0) fun l_0 c_0 => J.a0 l_0 c_0 h
  | 1 => asS (f 0) fun l_0 c_0 => asI .i64 (f 4) fun n_4 => asI .i64 (f 5) fun n_5 => J.a1 l_0 c_0 (f 3) n_4 n_5 h
  | 2 => asS (f 0) fun l_0 c_0 => asI .i64 (f 4) fun n_4 => asI .i64 (f 5) fun n_5 => J.a2 l_0 c_0 (f 3) n_4 n_5 h
  | _ => False
noncomputable def u65 : Cuts := [(.root, 0), ((.l (.r (.l (.r (.r (.r .root)))))), 1), ((.r (.r (.l (.l (.r (.l (.r (.r (.r .root))))))))), 2)]
noncomputable def d66 : Code := Option.rec .skip (fun c => c) Go.Proofs.Tryz.f66.body
noncomputable def q66 : Plans := []
structure J66 where
  a0 : Nat → Nat → H → Prop
  a1 : Nat → Nat → Int → H → Prop
noncomputable def s66_0 (_c : Caller Prop FT) (_k : KV) (J : J66) (l_0 : Nat) (c_0 : Nat) (h : H) : Prop :=
 J.a1 l_0 c_0 (Int.ofNat 0) h
noncomputable def s66_1 (_c : Caller Prop FT) (k : KV) (J : J66) (l_0 : Nat) (c_0 : Nat) (n_3 : Int) (h : H) : Prop :=
 cnd (iblt n_3 (Int.ofNat l_0))
 (natI n_3 fun m1 =>
 idxS l_0 c_0 m1 fun m2 =>
 joinB (fun k3 => gate false (iblt (Int.ofNat m2) (Int.ofNat 97))
 (k3 (iblt (Int.ofNat 122) (Int.ofNat m2)) h)
 (k3 true h)) fun b5 h4 =>
 joinB (fun k6 => gate true b5
 (joinB (fun k9 => gate false (iblt (Int.ofNat m2) (Int.ofNat 65))
 (k9 (iblt (Int.ofNat 90) (Int.ofNat m2)) h4)
 (k9 true h4)) fun b11 h10 =>
 k6 b11 h10)
 (k6 false h4)) fun b8 h7 =>
 joinB (fun k12 => gate true b8
 (joinB (fun k15 => gate false (iblt (Int.ofNat m2) (Int.ofNat 48))
 (k15 (iblt (Int.ofNat 57) (Int.ofNat m2)) h7)
 (k15 true h7)) fun b17 h16 =>
 k12 b17 h16)
 (k12 false h7)) fun b14 h13 =>
 joinB (fun k18 => gate true b14
 (k18 (bnot (ibeq (Int.ofNat m2) (Int.ofNat 46))) h13)
 (k18 false h13)) fun b20 h19 =>
 joinB (fun k21 => gate true b20
 (k21 (bnot (ibeq (Int.ofNat m2) (Int.ofNat 45))) h19)
 (k21 false h19)) fun b23 h22 =>
 joinB (fun k24 => gate true b23
 (k24 (bnot (ibeq (Int.ofNat m2) (Int.ofNat 95))) h22)
 (k24 false h22)) fun b26 h25 =>
 cnd b26
 (k (.bool false) h25)
 (fI (wrap .i64 (iadd n_3 (Int.ofNat 1))) fun n27 =>
 J.a1 l_0 c_0 n27 h25))
 (joinB (fun k28 => gate true (ible (Int.ofNat 1) (Int.ofNat l_0))
 (k28 (ible (Int.ofNat l_0) (Int.ofNat 20)) h)
 (k28 false h)) fun b30 h29 =>
 joinB (fun k31 => gate true b30
 (k31 (bnot (strEq l_0 c_0 1 46)) h29)
 (k31 false h29)) fun b33 h32 =>
 joinB (fun k34 => gate true b33
 (k34 (bnot (strEq l_0 c_0 2 11822)) h32)
 (k34 false h32)) fun b36 h35 =>
 k (.bool b36) h35)
noncomputable def z66 : J66 := ⟨fun _ _ _ => False, fun _ _ _ _ => False⟩
noncomputable def r66 (c : Caller Prop FT) (k : KV) (m : Nat) : J66 := Nat.rec z66 (fun _ J => ⟨s66_0 c k J, s66_1 c k J⟩) m
noncomputable def f66 (J : J66) : Jump := fun L f h => match L with
  | 0 => asS (f 0) fun l_0 c_0 => J.a0 l_0 c_0 h
  | 1 => asS (f 0) fun l_0 c_0 => asI .i64 (f 3) fun n_3 => J.a1 l_0 c_0 n_3 h
  | _ => False
noncomputable def u66 : Cuts := [(.root, 0), ((.l (.r (.l (.r .root)))), 1)]
noncomputable def d67 : Code := Option.rec .skip (fun c => c) Go.Proofs.Tryz.f67.body
noncomputable def q67 : Plans := []
structure J67 where
  a0 : AV → Nat → Nat → H → Prop
  a1 : AV → Nat → Nat → Int → H → Prop
noncomputable def s67_0 (_c : Caller Prop FT) (_k : KV) (J : J67) (v_0 : AV) (l_1 : Nat) (c_1 : Nat) (h : H) : Prop :=
 J.a1 v_0 l_1 c_1 (Int.ofNat 0) h
noncomputable def s67_1 (_c : Caller Prop FT) (k : KV) (J : J67) (v_0 : AV) (l_1 : Nat) (c_1 : Nat) (n_4 : Int) (h : H) : Prop :=
 oK (exNil v_0 h) fun v1 h2 =>
 fAddr 2 v1 fun v3 =>
 ld1 v3 h2 fun v4 =>
 lenV v4 fun m5 =>
 cnd (iblt n_4 (Int.ofNat m5))
 (oK (exNil v_0 h2) fun v6 h7 =>
 fAddr 2 v6 fun v8 =>
 ld1 v8 h7 fun v9 =>
 natI n_4 fun m10 =>
 elemA 1 m10 v9 fun v11 =>
 ld1 v11 h7 fun v12 =>
 asS v12 fun l13 c14 =>
 cnd (strEq l13 c14 l_1 c_1)
 (oK (withElem env 49 (fun e ei => exBuildSlice 0 [] h7 e ei)) fun v15 h16 =>
 oK (exNil v_0 h16) fun v17 h18 =>
 fAddr 3 v17 fun v19 =>
 ld1 v19 h18 fun v20 =>
 oK (builtinA env .append [49, 49] [v15, v20] h18) fun v21 h22 =>
 oK (exNil v_0 h22) fun v23 h24 =>
 fAddr 3 v23 fun v25 =>
 st1 v25 v21 h24 fun h26 =>
 oK (exNil v_0 h26) fun v27 h28 =>
 fAddr 3 v27 fun v29 =>
 ld1 v29 h28 fun v30 =>
 natI n_4 fun m31 =>
 elemA 1 m31 v30 fun v32 =>
 ld1 v32 h28 fun v33 =>
 asI .i64 v33 fun n34 =>
 fI (wrap .i64 (iadd n34 (Int.ofNat 1))) fun n35 =>
 natI n_4 fun m36 =>
 elemA 1 m36 v30 fun v37 =>
 st1 v37 (.int .i64 n35) h28 fun h38 =>
 k (.tuple []) h38)
 (fI (wrap .i64 (iadd n_4 (Int.ofNat 1))) fun n39 =>
 J.a1 v_0 l_1 c_1 n39 h7))
 (oK (withElem env 34 (fun e ei => exBuildSlice 0 [] h2 e ei)) fun v40 h41 =>
 oK (exNil v_0 h41) fun v42 h43 =>
 fAddr 2 v42 fun v44 =>
 ld1 v44 h43 fun v45 =>
 oK (builtinA env .append [34, 34] [v40, v45] h43) fun v46 h47 =>
 oK (withElem env 34 (fun e ei => exBuildSlice 1 [(0, (.str l_1 c_1))] h47 e ei)) fun v48 h49 =>
 oK (builtinA env .append [34, 34] [v46, v48] h49) fun v50 h51 =>
 oK (exNil v_0 h51) fun v52 h53 =>
 fAddr 2 v52 fun v54 =>
 st1 v54 v50 h53 fun h55 =>
 oK (withElem env 49 (fun e ei => exBuildSlice 0 [] h55 e ei)) fun v56 h57 =>
 oK (exNil v_0 h57) fun v58 h59 =>
 fAddr 3 v58 fun v60 =>
 ld1 v60 h59 fun v61 =>
 oK (builtinA env .append [49, 49] [v56, v61] h59) fun v62 h63 =>
 oK (withElem env 49 (fun e ei => exBuildSlice 1 [(0, (.int .i64 (Int.ofNat 1)))] h63 e ei)) fun v64 h65 =>
 oK (builtinA env .append [49, 49] [v62, v64] h65) fun v66 h67 =>
 oK (exNil v_0 h67) fun v68 h69 =>
 fAddr 3 v68 fun v70 =>
 st1 v70 v66 h69 fun h71 =>
 k (.tuple []) h71)
noncomputable def z67 : J67 := ⟨fun _ _ _ _ => False, fun _ _ _ _ _ => False⟩
noncomputable def r67 (c : Caller Prop FT) (k : KV) (m : Nat) : J67 := Nat.rec z67 (fun _ J => ⟨s67_0 c k J, s67_1 c k J⟩) m
noncomputable def f67 (J : J67) : Jump := fun L f h => match L with
  | 0 => asS (f 1) fun l_1 c_1 => J.a0 (f 0) l_1 c_1 h
  | 1 => asS (f 1) fun l_1 c_1 => asI .i64 (f 4) fun n_4 => J.a1 (f 0) l_1 c_1 n_4 h
  | _ => False
noncomputable def u67 : Cuts := [(.root, 0), ((.l (.r (.l .root))), 1)]
noncomputable def d68 : Code := Option.rec .skip (fun c => c) Go.Proofs.Tryz.f68.body
noncomputable def q68 : Plans := []
structure J68 where
  a0 : AV → Int → H → Prop
noncomputable def s68_0 (c : Caller Prop FT) (k : KV) (_J : J68) (v_0 : AV) (n_1 : Int) (h : H) : Prop :=
 oK (exNil v_0 h) fun v1 h2 =>
 fAddr 0 v1 fun v3 =>
 c (.func 91) [v3, (.int .i64 n_1)] h2 fun _ h5 =>
 k (.tuple []) h5
noncomputable def z68 : J68 := ⟨fun _ _ _ => False⟩
noncomputable def r68 (c : Caller Prop FT) (k : KV) (m : Nat) : J68 := Nat.rec z68 (fun _ J => ⟨s68_0 c k J⟩) m
noncomputable def f68 (J : J68) : Jump := fun L f h => match L with
  | 0 => asI .i64 (f 1) fun n_1 => J.a0 (f 0) n_1 h
  | _ => False
noncomputable def u68 : Cuts := [(.root, 0)]
noncomputable def d69 : Code := Option.rec .skip (fun c => c) Go.Proofs.Tryz.f69.body
noncomputable def q69 : Plans := [(16, [0, 1, 2, 3, 4, 5, 6, 7, 8, 9, 10, 11, 12, 13, 14, 15, 16, 17, 18, 19, 20, 21, 22, 23, 24, 25, 26, 27, 28, 29, 30, 31, 32, 33, 34, 35, 36, 37, 38, 39, 40, 41, 42, 43, 44, 45, 46, 47, 48, 49])]
structure J69 where
  a0 : AV → AV → H → Prop
  a1 : AV → AV → AV → Int → H → Prop
  a2 : AV → AV → AV → Int → AV → Int → H → Prop
  a3 : AV → AV → AV → Int → AV → Int → H → Prop
noncomputable def s69_0 (_c : Caller Prop FT) (_k : KV) (J : J69) (v_0 : AV) (v_1 : AV) (h : H) : Prop :=
 oK (exBuild env (env.ty 218) [] h) fun v1 h2 =>
 asG v1 fun g3 =>
 chk (Nat.ble 1 (len g3)) <|
 Hp.newK h2 (rowOf 218 g3) fun p4 h5 =>
 J.a1 v_0 v_1 (.ptr p4 0) (Int.ofNat 0) h5
noncomputable def s69_1 (c : Caller Prop FT) (k : KV) (J : J69) (v_0 : AV) (v_1 : AV) (v_4 : AV) (n_5 : Int) (h : H) : Prop :=
 lenV v_1 fun m6 =>
 joinB (fun k7 => gate true (iblt n_5 (Int.ofNat m6))
 (oK (exNil v_0 h) fun v10 h11 =>
 fAddr 0 v10 fun v12 =>
 ld1 v12 h11 fun v13 =>
 oK (exNil v13 h11) fun v14 h15 =>
 fAddr 8 v14 fun v16 =>
 fAddr 4 v16 fun v17 =>
 ld1 v17 h15 fun v18 =>
 asB v18 fun b19 =>
 k7 (bnot b19) h15)
 (k7 false h)) fun b9 h8 =>
 cnd b9
 (natI n_5 fun m20 =>
 elemA 4 m20 v_1 fun v21 =>
 fAddr 0 v21 fun v22 =>
 ld1 v22 h8 fun v23 =>
 c (.func 92) [v_4, v23] h8 fun v24 h25 =>
 asI .i64 v24 fun n26 =>
 cnd (bnot (ibeq n26 (Int.ofNat 0)))
 (natI n_5 fun m27 =>
 elemA 4 m27 v_1 fun v28 =>
 ldn 4 v28 h25 fun v29 =>
 c (.func 93) [v_0, (.int .i64 n26), v29] h25 fun _ h31 =>
 fI (wrap .i64 (iadd n_5 (Int.ofNat 1))) fun n32 =>
 J.a1 v_0 v_1 v_4 n32 h31)
 (J.a2 v_0 v_1 v_4 n_5 .nils n_5 h25))
 (k (.tuple []) h8)
noncomputable def s69_2 (c : Caller Prop FT) (_k : KV) (J : J69) (v_0 : AV) (v_1 : AV) (v_4 : AV) (n_5 : Int) (v_7 : AV) (n_8 : Int) (h : H) : Prop :=
 lenV v_1 fun m33 =>
 joinB (fun k34 => gate true (iblt n_5 (Int.ofNat m33))
 (natI n_5 fun m37 =>
 elemA 4 m37 v_1 fun v38 =>
 fAddr 0 v38 fun v39 =>
 ld1 v39 h fun v40 =>
 c (.func 92) [v_4, v40] h fun v41 h42 =>
 asI .i64 v41 fun n43 =>
 k34 (ibeq n43 (Int.ofNat 0)) h42)
 (k34 false h)) fun b36 h35 =>
 cnd b36
 (lenV v_7 fun m44 =>
 natI n_5 fun m45 =>
 elemA 4 m45 v_1 fun v46 =>
 fAddr 0 v46 fun v47 =>
 ld1 v47 h35 fun v48 =>
 oK (builtinA env .append [32, 32] [v_7, v48] h35) fun v49 h50 =>
 joinB (fun k51 => gate true (iblt n_8 n_5)
 (lenV v49 fun m54 =>
 k51 (iblt (Int.ofNat m44) (Int.ofNat m54)) h50)
 (k51 false h50)) fun b53 h52 =>
 cnd b53
 (elemA 8 m44 v49 fun v55 =>
 fAddr 2 v55 fun v56 =>
 st1 v56 (.bool true) h52 fun h57 =>
 J.a3 v_0 v_1 v_4 n_5 v49 n_8 h57)
 (J.a3 v_0 v_1 v_4 n_5 v49 n_8 h52))
 (c (.func 94) [v_0] h35 fun v58 h59 =>
 asB v58 fun b60 =>
 joinB (fun k61 => gate true (bnot b60)
 (lenV v_7 fun m64 =>
 k61 (iblt (Int.ofNat 0) (Int.ofNat m64)) h59)
 (k61 false h59)) fun b63 h62 =>
 cnd b63
 (oK (exNil v_0 h62) fun v65 h66 =>
 fAddr 0 v65 fun v67 =>
 ld1 v67 h66 fun v68 =>
 oK (exNil v_0 h66) fun v69 h70 =>
 fAddr 0 v69 fun v71 =>
 ld1 v71 h70 fun v72 =>
 oK (exNil v72 h70) fun v73 h74 =>
 fAddr 8 v73 fun v75 =>
 fAddr 0 v75 fun v76 =>
 ld1 v76 h74 fun v77 =>
 oK (exNil v_0 h74) fun v78 h79 =>
 fAddr 0 v78 fun v80 =>
 ld1 v80 h79 fun v81 =>
 oK (exNil v_0 h79) fun v82 h83 =>
 fAddr 0 v82 fun v84 =>
 ld1 v84 h83 fun v85 =>
 oK (exNil v85 h83) fun v86 h87 =>
 fAddr 4 v86 fun v88 =>
 fAddr 1 v88 fun v89 =>
 ld1 v89 h87 fun v90 =>
 oK (exNil v_0 h87) fun v91 h92 =>
 fAddr 0 v91 fun v93 =>
 ld1 v93 h92 fun v94 =>
 oK (exNil v94 h92) fun v95 h96 =>
 fAddr 6 v95 fun v97 =>
 ld1 v97 h96 fun v98 =>
 oK (exNil v_0 h96) fun v99 h100 =>
 fAddr 2 v99 fun v101 =>
 ldn 3 v101 h100 fun v102 =>
 oK (exNil v_0 h100) fun v103 h104 =>
 fAddr 0 v103 fun v105 =>
 ld1 v105 h104 fun v106 =>
 oK (exNil v106 h104) fun v107 h108 =>
 fAddr 7 v107 fun v109 =>
 ld1 v109 h108 fun v110 =>
 callV (CP env) c v90 [v98, v_7, v102, v110] h108 fun v111 h112 =>
 ld1 v67 h112 fun v113 =>
 eqC v113 v68 <|
 ld1 v71 h112 fun v114 =>
 eqC v114 v72 <|
 ld1 v76 h112 fun v115 =>
 eqC v115 v77 <|
 ld1 v80 h112 fun v116 =>
 eqC v116 v81 <|
 c (.func 95) [v81, v111] h112 fun v117 h118 =>
 ld1 v67 h118 fun v119 =>
 eqC v119 v68 <|
 ld1 v71 h118 fun v120 =>
 eqC v120 v72 <|
 ld1 v76 h118 fun v121 =>
 eqC v121 v77 <|
 oK (builtinA env .append [32, 32] [v77, v117] h118) fun v122 h123 =>
 ld1 v67 h123 fun v124 =>
 eqC v124 v68 <|
 oK (exNil v68 h123) fun v125 h126 =>
 fAddr 8 v125 fun v127 =>
 fAddr 0 v127 fun v128 =>
 st1 v128 v122 h126 fun h129 =>
 J.a1 v_0 v_1 v_4 n_5 h129)
 (J.a1 v_0 v_1 v_4 n_5 h62))
noncomputable def s69_3 (_c : Caller Prop FT) (_k : KV) (J : J69) (v_0 : AV) (v_1 : AV) (v_4 : AV) (n_5 : Int) (v_7 : AV) (n_8 : Int) (h : H) : Prop :=
 fI (wrap .i64 (iadd n_5 (Int.ofNat 1))) fun n130 =>
 J.a2 v_0 v_1 v_4 n130 v_7 n_8 h
noncomputable def z69 : J69 := ⟨fun _ _ _ => False, fun _ _ _ _ _ => False, fun _ _ _ _ _ _ _ => False, fun _ _ _ _ _ _ _ => False⟩
noncomputable def r69 (c : Caller Prop FT) (k : KV) (m : Nat) : J69 := Nat.rec z69 (fun _ J => ⟨s69_0 c k J, s69_1 c k J, s69_2 c k J, s69_3 c k J⟩) m
noncomputable def f69 (J : J69) : Jump := fun L f h => match L with
  | 0 => J.a0 (f 0) (f 1) h
  | 1 => asI .i64 (f 5) fun n_5 => J.a1 (f 0) (f 1) (f 4) n_5 h
  | 2 => asI .i64 (f 5) fun n_5 => asI .i64 (f 8) fun n_8 => J.a2 (f 0) (f 1) (f 4) n_5 (f 7) n_8 h
  | 3 => asI .i64 (f 5) fun n_5 => asI .i64 (f 8) fun n_8 => J.a3 (f 0) (f 1) (f 4) n_5 (f 7) n_8 h
  | _ => False
noncomputable def u69 : Cuts := [(.root, 0), ((.l (.r (.r .root))), 1), ((.l (.l (.r (.r (.r (.r (.l (.r (.l (.l (.r (.r .root)))))))))))), 2), ((.r (.r (.l (.l (.l (.r (.r (.r (.r (.l (.r (.l (.l (.r (.r .root))))))))))))))), 3)]
noncomputable def d70 : Code := Option.rec .skip (fun c => c) Go.Proofs.Tryz.f70.body
noncomputable def q70 : Plans := [(1, [0, 1, 2, 3, 4, 5, 6, 7, 8, 9, 10, 11, 12, 13, 14])]
noncomputable def u70 : Cuts := [(.root, 0)]
noncomputable def d71 : Code := Option.rec .skip (fun c => c) Go.Proofs.Tryz.f71.body
noncomputable def q71 : Plans := []
noncomputable def u71 : Cuts := [(.root, 0)]
noncomputable def d72 : Code := Option.rec .skip (fun c => c) Go.Proofs.Tryz.f72.body
noncomputable def q72 : Plans := []
structure J72 where
  a0 : AV → H → Prop
noncomputable def s72_0 (c : Caller Prop FT) (k : KV) (_J : J72) (v_0 : AV) (h : H) : Prop :=
 lenV v_0 fun m1 =>
 fI (wrap .u64 (Int.ofNat m1)) fun n2 =>
 c (.func 98) [(.int .u64 n2)] h fun v3 h4 =>
 asI .i64 v3 fun n5 =>
 c (.func 97) [v_0, (.int .i64 (Int.ofNat 0)), (.int .i64 (Int.ofNat m1)), (.int .i64 n5)] h4 fun _ h7 =>
 k (.tuple []) h7
noncomputable def z72 : J72 := ⟨fun _ _ => False⟩
noncomputable def r72 (c : Caller Prop FT) (k : KV) (m : Nat) : J72 := Nat.rec z72 (fun _ J => ⟨s72_0 c k J⟩) m
noncomputable def f72 (J : J72) : Jump := fun L f h => match L with
  | 0 => J.a0 (f 0) h
  | _ => False
noncomputable def u72 : Cuts := [(.root, 0)]
noncomputable def d73 : Code := Option.rec .skip (fun c => c) Go.Proofs.Tryz.f73.body
noncomputable def q73 : Plans := []
noncomputable def u73 : Cuts := [(.root, 0), ((.l (.r .root)), 1)]
noncomputable def d74 : Code := Option.rec .skip (fun c => c) Go.Proofs.Tryz.f74.body
noncomputable def q74 : Plans := []
structure J74 where
  a0 : Nat → Nat → H → Prop
noncomputable def s74_0 (c : Caller Prop FT) (k : KV) (_J : J74) (l_0 : Nat) (c_0 : Nat) (h : H) : Prop :=
 c (.func 79) [(.str l_0 c_0)] h fun v1 h2 =>
 joinB (fun k3 => gate true (bnot (strEq l_0 c_0 0 0))
 (lenV v1 fun m6 =>
 joinB (fun k7 => gate false (ibeq (Int.ofNat m6) (Int.ofNat 0))
 (lenV v1 fun m10 =>
 fI (wrap .i64 (isub (Int.ofNat m10) (Int.ofNat 1))) fun n11 =>
 natI n11 fun m12 =>
 elemA 3 m12 v1 fun v13 =>
 fAddr 0 v13 fun v14 =>
 ld1 v14 h2 fun v15 =>
 asI .u8 v15 fun n16 =>
 k7 (bnot (ibeq n16 (Int.ofNat 10))) h2)
 (k7 true h2)) fun b9 h8 =>
 k3 b9 h8)
 (k3 false h2)) fun b5 h4 =>
 cnd b5
 (oK (exBuild env (env.ty 180) [(0, (.int .u8 (Int.ofNat 10))), (1, (.int .i64 (Int.ofNat l_0))), (2, (.int .i64 (Int.ofNat l_0)))] h4) fun v17 h18 =>
 oK (withElem env 175 (fun e ei => exBuildSlice 1 [(0, v17)] h18 e ei)) fun v19 h20 =>
 oK (builtinA env .append [175, 175] [v1, v19] h20) fun v21 h22 =>
 k v21 h22)
 (k v1 h4)
noncomputable def z74 : J74 := ⟨fun _ _ _ => False⟩
noncomputable def r74 (c : Caller Prop FT) (k : KV) (m : Nat) : J74 := Nat.rec z74 (fun _ J => ⟨s74_0 c k J⟩) m
noncomputable def f74 (J : J74) : Jump := fun L f h => match L with
  | 0 => asS (f 0) fun l_0 c_0 => J.a0 l_0 c_0 h
  | _ => False
noncomputable def u74 : Cuts := [(.root, 0)]
noncomputable def d75 : Code := Option.rec .skip (fun c => c) Go.Proofs.Tryz.f75.body
noncomputable def q75 : Plans := []
structure J75 where
  a0 : AV → H → Prop
  a1 : AV → AV → H → Prop
noncomputable def s75_0 (_c : Caller Prop FT) (_k : KV) (J : J75) (v_0 : AV) (h : H) : Prop :=
 Hp.newK h ob165 fun p1 h2 =>
 oK (exNil v_0 h2) fun v3 h4 =>
 fAddr 4 v3 fun v5 =>
 st1 v5 (.bool false) h4 fun h6 =>
 J.a1 v_0 (.ptr p1 0) h6
noncomputable def s75_1 (c : Caller Prop FT) (k : KV) (J : J75) (v_0 : AV) (v_2 : AV) (h : H) : Prop :=
 c (.func 99) [v_0] h fun v7 h8 =>
 ext 0 v7 fun v9 =>
 ext 1 v7 fun v10 =>
 asB v10 fun b11 =>
 ext 2 v7 fun v12 =>
 asB v12 fun b13 =>
 Hp.newK h8 ob45 fun p14 h15 =>
 stn 8 (.ptr p14 0) v9 h15 fun h16 =>
 fAddr 3 v_2 fun v17 =>
 st1 v17 (.bool b11) h16 fun h18 =>
 cnd (bnot b13)
 (ldn 4 v_2 h18 fun v19 =>
 stn 4 v_2 v19 h18 fun h20 =>
 ldn 4 v_2 h20 fun v21 =>
 k v21 h20)
 (fAddr 0 v_2 fun v22 =>
 ld1 v22 h18 fun v23 =>
 ldn 8 (.ptr p14 0) h18 fun v24 =>
 oK (withElem env 32 (fun e ei => exBuildSlice 1 [(0, v24)] h18 e ei)) fun v25 h26 =>
 oK (builtinA env .append [32, 32] [v23, v25] h26) fun v27 h28 =>
 fAddr 0 v_2 fun v29 =>
 st1 v29 v27 h28 fun h30 =>
 J.a1 v_0 v_2 h30)
noncomputable def z75 : J75 := ⟨fun _ _ => False, fun _ _ _ => False⟩
noncomputable def r75 (c : Caller Prop FT) (k : KV) (m : Nat) : J75 := Nat.rec z75 (fun _ J => ⟨s75_0 c k J, s75_1 c k J⟩) m
noncomputable def f75 (J : J75) : Jump := fun L f h => match L with
  | 0 => J.a0 (f 0) h
  | 1 => J.a1 (f 0) (f 2) h
  | _ => False
noncomputable def u75 : Cuts := [(.root, 0), ((.l (.r (.r .root))), 1)]
noncomputable def d76 : Code := Option.rec .skip (fun c => c) Go.Proofs.Tryz.f76.body
noncomputable def q76 : Plans := []
structure J76 where
  a0 : AV → AV → H → Prop
  a1 : AV → AV → Int → H → Prop
noncomputable def s76_0 (_c : Caller Prop FT) (_k : KV) (J : J76) (v_0 : AV) (v_1 : AV) (h : H) : Prop :=
 ld1 v_1 h fun v1 =>
 lenV v1 fun m2 =>
 fI (wrap .i64 (isub (Int.ofNat m2) (Int.ofNat 1))) fun n3 =>
 J.a1 v_0 v_1 n3 h
noncomputable def s76_1 (c : Caller Prop FT) (k : KV) (J : J76) (v_0 : AV) (v_1 : AV) (n_3 : Int) (h : H) : Prop :=
 cnd (ible (Int.ofNat 0) n_3)
 (ld1 v_1 h fun v4 =>
 natI n_3 fun m5 =>
 elemA 8 m5 v4 fun v6 =>
 ldn 8 v6 h fun v7 =>
 callV (CP env) c v_0 [(.int .i64 n_3), v7] h fun v8 h9 =>
 asB v8 fun b10 =>
 cnd (bnot b10)
 (k (.tuple []) h9)
 (fI (wrap .i64 (isub n_3 (Int.ofNat 1))) fun n11 =>
 J.a1 v_0 v_1 n11 h9))
 (k (.tuple []) h)
noncomputable def z76 : J76 := ⟨fun _ _ _ => False, fun _ _ _ _ => False⟩
noncomputable def r76 (c : Caller Prop FT) (k : KV) (m : Nat) : J76 := Nat.rec z76 (fun _ J => ⟨s76_0 c k J, s76_1 c k J⟩) m
noncomputable def f76 (J : J76) : Jump := fun L f h => match L with
  | 0 => J.a0 (f 0) (f 1) h
  | 1 => asI .i64 (f 3) fun n_3 => J.a1 (f 0) (f 1) n_3 h
  | _ => False
noncomputable def u76 : Cuts := [(.root, 0), ((.l (.r .root)), 1)]
noncomputable def d77 : Code := Option.rec .skip (fun c => c) Go.Proofs.Tryz.f77.body
noncomputable def q77 : Plans := [(1, [0, 1, 2, 3, 4, 5, 6, 7, 8, 9, 10, 11, 12, 13, 14])]
structure J77 where
  a0 : AV → Int → H → Prop
noncomputable def s77_0 (_c : Caller Prop FT) (k : KV) (_J : J77) (v_0 : AV) (n_1 : Int) (h : H) : Prop :=
 Hp.newK h ob136 fun p1 h2 =>
 oK (exNil v_0 h2) fun v3 h4 =>
 fAddr 2 v3 fun v5 =>
 ld1 v5 h4 fun v6 =>
 oK (exNil v_0 h4) fun v7 h8 =>
 fAddr 2 v7 fun v9 =>
 ld1 v9 h8 fun v10 =>
 lenV v10 fun m11 =>
 fI (wrap .i64 (isub (Int.ofNat m11) (Int.ofNat 1))) fun n12 =>
 fI (wrap .i64 (isub n12 n_1)) fun n13 =>
 natI n13 fun m14 =>
 elemA 9 m14 v6 fun v15 =>
 ldn 9 v15 h8 fun v16 =>
 stn 9 (.ptr p1 0) v16 h8 fun h17 =>
 ldn 9 (.ptr p1 0) h17 fun v18 =>
 k v18 h17
noncomputable def z77 : J77 := ⟨fun _ _ _ => False⟩
noncomputable def r77 (c : Caller Prop FT) (k : KV) (m : Nat) : J77 := Nat.rec z77 (fun _ J => ⟨s77_0 c k J⟩) m
noncomputable def f77 (J : J77) : Jump := fun L f h => match L with
  | 0 => asI .i64 (f 1) fun n_1 => J.a0 (f 0) n_1 h
  | _ => False
noncomputable def u77 : Cuts := [(.root, 0)]
noncomputable def d78 : Code := Option.rec .skip (fun c => c) Go.Proofs.Tryz.f78.body
noncomputable def q78 : Plans := [(7, [0, 1, 2, 3, 4, 5, 6, 7, 8, 9, 10, 11, 12]), (8, [0, 1, 2, 3, 4, 5, 6, 7, 8, 9, 10, 11]), (9, [0, 1, 2, 3, 4, 5, 6, 7, 8, 9, 10, 11])]
structure J78 where
  a0 : AV → AV → H → Prop
  a1 : AV → AV → H → Prop
noncomputable def s78_0 (c : Caller Prop FT) (k : KV) (J : J78) (v_0 : AV) (v_1 : AV) (h : H) : Prop :=
 asG v_1 fun g1 =>
 chk (Nat.ble 1 (len g1)) <|
 Hp.newK h (rowOf 136 g1) fun p2 h3 =>
 fAddr 0 (.ptr p2 0) fun v4 =>
 fAddr 0 v4 fun v5 =>
 ld1 v5 h3 fun v6 =>
 asI .i64 v6 fun n7 =>
 joinB (fun k8 => gate false (bnot (ibeq n7 (Int.ofNat 1)))
 (fAddr 8 (.ptr p2 0) fun v11 =>
 ld1 v11 h3 fun v12 =>
 fAddr 0 (.ptr p2 0) fun v13 =>
 fAddr 1 v13 fun v14 =>
 ld1 v14 h3 fun v15 =>
 asS v15 fun l16 c17 =>
 c (.func 100) [v12, (.str l16 c17)] h3 fun v18 h19 =>
 asB v18 fun b20 =>
 k8 b20 h19)
 (k8 true h3)) fun b10 h9 =>
 cnd b10
 (ldn 9 (.ptr p2 0) h9 fun v21 =>
 c (.func 101) [v_0, v21] h9 fun _ h23 =>
 k (.tuple []) h23)
 (fAddr 0 (.ptr p2 0) fun v24 =>
 ldn 8 v24 h9 fun v25 =>
 c (.func 102) [v_0, v25] h9 fun v26 h27 =>
 ext 0 v26 fun v28 =>
 ext 1 v26 fun v29 =>
 asB v29 fun b30 =>
 Hp.newK h27 ob45 fun p31 h32 =>
 stn 8 (.ptr p31 0) v28 h32 fun h33 =>
 cnd b30
 (ldn 8 (.ptr p31 0) h33 fun v34 =>
 fAddr 8 (.ptr p2 0) fun v35 =>
 ld1 v35 h33 fun v36 =>
 oK (exBuild env (env.ty 136) [(0, v34), (1, v36)] h33) fun v37 h38 =>
 c (.func 101) [v_0, v37] h38 fun _ h40 =>
 k (.tuple []) h40)
 (oK (exNil v_0 h33) fun v41 h42 =>
 fAddr 0 v41 fun v43 =>
 ld1 v43 h42 fun v44 =>
 oK (exNil v44 h42) fun v45 h46 =>
 fAddr 0 v45 fun v47 =>
 ld1 v47 h46 fun v48 =>
 oV (binA env .neq 103 v48 .nilp) fun v49 =>
 asB v49 fun b50 =>
 cnd b50
 (oK (exNil v_0 h46) fun v51 h52 =>
 fAddr 0 v51 fun v53 =>
 ld1 v53 h52 fun v54 =>
 oK (exNil v54 h52) fun v55 h56 =>
 fAddr 5 v55 fun v57 =>
 ld1 v57 h56 fun v58 =>
 fAddr 0 (.ptr p2 0) fun v59 =>
 fAddr 1 v59 fun v60 =>
 ld1 v60 h56 fun v61 =>
 asS v61 fun l62 c63 =>
 oK (exLookup env 107 v58 (.str l62 c63) false h56) fun v64 h65 =>
 asI .i64 v64 fun n66 =>
 fI (wrap .i64 (iadd n66 (Int.ofNat 1))) fun n67 =>
 oK (exMapUpdate env 107 v58 (.str l62 c63) (.int .i64 n67) h65) fun _ h69 =>
 J.a1 v_0 (.ptr p2 0) h69)
 (J.a1 v_0 (.ptr p2 0) h46)))
noncomputable def s78_1 (c : Caller Prop FT) (k : KV) (_J : J78) (v_0 : AV) (v_3 : AV) (h : H) : Prop :=
 oK (exNil v_0 h) fun v70 h71 =>
 fAddr 0 v70 fun v72 =>
 ld1 v72 h71 fun v73 =>
 oK (exNil v73 h71) fun v74 h75 =>
 fAddr 0 v74 fun v76 =>
 ld1 v76 h75 fun v77 =>
 fAddr 0 v_3 fun v78 =>
 fAddr 1 v78 fun v79 =>
 ld1 v79 h75 fun v80 =>
 asS v80 fun l81 c82 =>
 c (.func 103) [v77, (.str l81 c82)] h75 fun v83 h84 =>
 oV (binA env .eql 231 v83 .nilp) fun v85 =>
 asB v85 fun b86 =>
 joinB (fun k87 => gate false b86
 (oK (exNil v83 h84) fun v90 h91 =>
 fAddr 1 v90 fun v92 =>
 ld1 v92 h91 fun v93 =>
 asB v93 fun b94 =>
 joinB (fun k95 => gate true b94
 (oK (exNil v_0 h91) fun v98 h99 =>
 fAddr 2 v98 fun v100 =>
 ld1 v100 h99 fun v101 =>
 lenV v101 fun m102 =>
 joinB (fun k103 => gate false (ibeq (Int.ofNat m102) (Int.ofNat 0))
 (c (.func 77) [v_0, (.int .i64 (Int.ofNat 0))] h99 fun v106 h107 =>
 fldn 0 8 v106 fun v108 =>
 c (.func 104) [v108, (.str 1 40)] h107 fun v109 h110 =>
 asB v109 fun b111 =>
 k103 (bnot b111) h110)
 (k103 true h99)) fun b105 h104 =>
 k95 b105 h104)
 (k95 false h91)) fun b97 h96 =>
 k87 b97 h96)
 (k87 true h84)) fun b89 h88 =>
 cnd b89
 (ldn 9 v_3 h88 fun v112 =>
 c (.func 101) [v_0, v112] h88 fun _ h114 =>
 k (.tuple []) h114)
 (oK (exNil v83 h88) fun v115 h116 =>
 fAddr 1 v115 fun v117 =>
 ld1 v117 h116 fun v118 =>
 asB v118 fun b119 =>
 cnd b119
 (ldn 9 v_3 h116 fun v120 =>
 c (.func 105) [v_0, v83, v120] h116 fun _ h122 =>
 k (.tuple []) h122)
 (ldn 9 v_3 h116 fun v123 =>
 fAddr 8 v_3 fun v124 =>
 ld1 v124 h116 fun v125 =>
 oK (exNil v83 h116) fun v126 h127 =>
 fAddr 0 v126 fun v128 =>
 ld1 v128 h127 fun v129 =>
 asS v129 fun l130 c131 =>
 oK (withElem env 34 (fun e ei => exBuildSlice 1 [(0, (.str l130 c131))] h127 e ei)) fun v132 h133 =>
 ldn 9 v_3 h133 fun v134 =>
 eqC v134 v123 <|
 ld1 v124 h133 fun v135 =>
 eqC v135 v125 <|
 c (.func 107) [v125, v132] h133 fun v136 h137 =>
 ldn 9 v_3 h137 fun v138 =>
 eqC v138 v123 <|
 c (.func 106) [v_0, v83, v123, .nils, .nils, v136] h137 fun _ h140 =>
 k (.tuple []) h140))
noncomputable def z78 : J78 := ⟨fun _ _ _ => False, fun _ _ _ => False⟩
noncomputable def r78 (c : Caller Prop FT) (k : KV) (m : Nat) : J78 := Nat.rec z78 (fun _ J => ⟨s78_0 c k J, s78_1 c k J⟩) m
noncomputable def f78 (J : J78) : Jump := fun L f h => match L with
  | 0 => J.a0 (f 0) (f 1) h
  | 1 => J.a1 (f 0) (f 3) h
  | _ => False
noncomputable def u78 : Cuts := [(.root, 0), ((.r (.r (.r (.r .root)))), 1)]
noncomputable def d79 : Code := Option.rec .skip (fun c => c) Go.Proofs.Tryz.f79.body
noncomputable def q79 : Plans := []
structure J79 where
  a0 : Nat → Nat → H → Prop
  a1 : Nat → Nat → AV → Int → H → Prop
noncomputable def s79_0 (c : Caller Prop FT) (k : KV) (J : J79) (l_0 : Nat) (c_0 : Nat) (h : H) : Prop :=
 cnd (ible (Int.ofNat l_0) (Int.ofNat 0))
 (k .nils h)
 (c (.func 108) [(.str l_0 c_0), (.int .i64 (Int.ofNat 0))] h fun v1 h2 =>
 Hp.newK h2 ob180 fun p3 h4 =>
 stn 3 (.ptr p3 0) v1 h4 fun h5 =>
 fAddr 2 (.ptr p3 0) fun v6 =>
 ld1 v6 h5 fun v7 =>
 asI .i64 v7 fun n8 =>
 fAddr 0 (.ptr p3 0) fun v9 =>
 ld1 v9 h5 fun v10 =>
 asI .u8 v10 fun n11 =>
 joinB (fun k12 => gate true (ibeq n11 (Int.ofNat 92))
 (k12 (iblt n8 (Int.ofNat l_0)) h5)
 (k12 false h5)) fun b14 h13 =>
 joinB (fun k15 => gate true b14
 (natI n8 fun m18 =>
 idxS l_0 c_0 m18 fun m19 =>
 k15 (ibeq (Int.ofNat m19) (Int.ofNat 10)) h13)
 (k15 false h13)) fun b17 h16 =>
 cnd b17
 (fI (wrap .i64 (iadd n8 (Int.ofNat 1))) fun n20 =>
 J.a1 l_0 c_0 .nils n20 h16)
 (ldn 3 (.ptr p3 0) h16 fun v21 =>
 oK (withElem env 175 (fun e ei => exBuildSlice 1 [(0, v21)] h16 e ei)) fun v22 h23 =>
 oK (builtinA env .append [175, 175] [.nils, v22] h23) fun v24 h25 =>
 J.a1 l_0 c_0 v24 n8 h25))
noncomputable def s79_1 (c : Caller Prop FT) (k : KV) (J : J79) (l_0 : Nat) (c_0 : Nat) (v_2 : AV) (n_3 : Int) (h : H) : Prop :=
 cnd (ible (Int.ofNat l_0) n_3)
 (k v_2 h)
 (c (.func 108) [(.str l_0 c_0), (.int .i64 n_3)] h fun v26 h27 =>
 Hp.newK h27 ob180 fun p28 h29 =>
 stn 3 (.ptr p28 0) v26 h29 fun h30 =>
 fAddr 2 (.ptr p28 0) fun v31 =>
 ld1 v31 h30 fun v32 =>
 asI .i64 v32 fun n33 =>
 fAddr 0 (.ptr p28 0) fun v34 =>
 ld1 v34 h30 fun v35 =>
 asI .u8 v35 fun n36 =>
 joinB (fun k37 => gate true (ibeq n36 (Int.ofNat 92))
 (k37 (iblt n33 (Int.ofNat l_0)) h30)
 (k37 false h30)) fun b39 h38 =>
 joinB (fun k40 => gate true b39
 (natI n33 fun m43 =>
 idxS l_0 c_0 m43 fun m44 =>
 k40 (ibeq (Int.ofNat m44) (Int.ofNat 10)) h38)
 (k40 false h38)) fun b42 h41 =>
 cnd b42
 (fI (wrap .i64 (iadd n33 (Int.ofNat 1))) fun n45 =>
 J.a1 l_0 c_0 v_2 n45 h41)
 (ldn 3 (.ptr p28 0) h41 fun v46 =>
 oK (withElem env 175 (fun e ei => exBuildSlice 1 [(0, v46)] h41 e ei)) fun v47 h48 =>
 oK (builtinA env .append [175, 175] [v_2, v47] h48) fun v49 h50 =>
 J.a1 l_0 c_0 v49 n33 h50))
noncomputable def z79 : J79 := ⟨fun _ _ _ => False, fun _ _ _ _ _ => False⟩
noncomputable def r79 (c : Caller Prop FT) (k : KV) (m : Nat) : J79 := Nat.rec z79 (fun _ J => ⟨s79_0 c k J, s79_1 c k J⟩) m
noncomputable def f79 (J : J79) : Jump := fun L f h => match L with
  | 0 => asS (f 0) fun l_0 c_0 => J.a0 l_0 c_0 h
  | 1 => asS (f 0) fun l_0 c_0 => asI .i64 (f 3) fun n_3 => J.a1 l_0 c_0 (f 2) n_3 h
  | _ => False
noncomputable def u79 : Cuts := [(.root, 0), ((.lab (.r .root) 0), 1)]
noncomputable def d80 : Code := Option.rec .skip (fun c => c) Go.Proofs.Tryz.f80.body
noncomputable def q80 : Plans := []
structure J80 where
  a0 : AV → Int → H → Prop
noncomputable def s80_0 (c : Caller Prop FT) (k : KV) (_J : J80) (v_0 : AV) (n_1 : Int) (h : H) : Prop :=
 c (.func 109) [v_0] h fun _ h2 =>
 oK (exNil v_0 h2) fun v3 h4 =>
 fAddr 1 v3 fun v5 =>
 ld1 v5 h4 fun v6 =>
 oK (withElem env 23 (fun e ei => exBuildSlice 1 [(0, (.int .u8 n_1))] h4 e ei)) fun v7 h8 =>
 oK (builtinA env .append [23, 23] [v6, v7] h8) fun v9 h10 =>
 oK (exNil v_0 h10) fun v11 h12 =>
 fAddr 1 v11 fun v13 =>
 st1 v13 v9 h12 fun h14 =>
 k .nili h14
noncomputable def z80 : J80 := ⟨fun _ _ _ => False⟩
noncomputable def r80 (c : Caller Prop FT) (k : KV) (m : Nat) : J80 := Nat.rec z80 (fun _ J => ⟨s80_0 c k J⟩) m
noncomputable def f80 (J : J80) : Jump := fun L f h => match L with
  | 0 => asI .u8 (f 1) fun n_1 => J.a0 (f 0) n_1 h
  | _ => False
noncomputable def u80 : Cuts := [(.root, 0)]
noncomputable def d81 : Code := Option.rec .skip (fun c => c) Go.Proofs.Tryz.f81.body
noncomputable def q81 : Plans := [(1, [0, 1, 2, 3, 4, 5, 6, 7, 8, 9, 10, 11])]
structure J81 where
  a0 : AV → H → Prop
noncomputable def s81_0 (_c : Caller Prop FT) (k : KV) (_J : J81) (v_0 : AV) (h : H) : Prop :=
 oK (exNil v_0 h) fun v1 h2 =>
 fAddr 1 v1 fun v3 =>
 ld1 v3 h2 fun v4 =>
 oK (builtinA env .unsafeSliceData [23] [v4] h2) fun v5 h6 =>
 oK (exNil v_0 h6) fun v7 h8 =>
 fAddr 1 v7 fun v9 =>
 ld1 v9 h8 fun v10 =>
 lenV v10 fun m11 =>
 oK (builtinA env .unsafeString [240, 3] [v5, (.int .i64 (Int.ofNat m11))] h8) fun v12 h13 =>
 asS v12 fun l14 c15 =>
 k (.str l14 c15) h13
noncomputable def z81 : J81 := ⟨fun _ _ => False⟩
noncomputable def r81 (c : Caller Prop FT) (k : KV) (m : Nat) : J81 := Nat.rec z81 (fun _ J => ⟨s81_0 c k J⟩) m
noncomputable def f81 (J : J81) : Jump := fun L f h => match L with
  | 0 => J.a0 (f 0) h
  | _ => False
noncomputable def u81 : Cuts := [(.root, 0)]
noncomputable def d82 : Code := Option.rec .skip (fun c => c) Go.Proofs.Tryz.f82.body
noncomputable def q82 : Plans := []
structure J82 where
  a0 : AV → AV → H → Prop
noncomputable def s82_0 (c : Caller Prop FT) (k : KV) (_J : J82) (v_0 : AV) (v_1 : AV) (h : H) : Prop :=
 c (.func 54) [v_0] h fun v1 h2 =>
 asI .i64 v1 fun n3 =>
 cnd (ibeq n3 (Int.ofNat 0))
 (k (.tuple []) h2)
 (oK (exNil v_0 h2) fun v4 h5 =>
 fAddr 1 v4 fun v6 =>
 ld1 v6 h5 fun v7 =>
 oV (binA env .eql 93 v7 .nilp) fun v8 =>
 asB v8 fun b9 =>
 cnd b9
 (oK (exNil v_0 h5) fun v10 h11 =>
 fAddr 0 v10 fun v12 =>
 ld1 v12 h11 fun v13 =>
 asS v13 fun l14 c15 =>
 callV (CP env) c v_1 [(.str l14 c15)] h11 fun _ h17 =>
 k (.tuple []) h17)
 (oK (exNil v_0 h5) fun v18 h19 =>
 fAddr 1 v18 fun v20 =>
 ld1 v20 h19 fun v21 =>
 c (.func 82) [v21, v_1] h19 fun _ h23 =>
 oK (exNil v_0 h23) fun v24 h25 =>
 fAddr 2 v24 fun v26 =>
 ld1 v26 h25 fun v27 =>
 c (.func 82) [v27, v_1] h25 fun _ h29 =>
 k (.tuple []) h29))
noncomputable def z82 : J82 := ⟨fun _ _ _ => False⟩
noncomputable def r82 (c : Caller Prop FT) (k : KV) (m : Nat) : J82 := Nat.rec z82 (fun _ J => ⟨s82_0 c k J⟩) m
noncomputable def f82 (J : J82) : Jump := fun L f h => match L with
  | 0 => J.a0 (f 0) (f 1) h
  | _ => False
noncomputable def u82 : Cuts := [(.root, 0)]
noncomputable def d83 : Code := Option.rec .skip (fun c => c) Go.Proofs.Tryz.f83.body
noncomputable def q83 : Plans := []
structure J83 where
  a0 : Nat → Nat → AV → H → Prop
noncomputable def s83_0 (c : Caller Prop FT) (k : KV) (_J : J83) (l_0 : Nat) (c_0 : Nat) (v_1 : AV) (h : H) : Prop :=
 c (.func 84) [v_1, (.str l_0 c_0)] h fun _ h2 =>
 k (.tuple []) h2
noncomputable def z83 : J83 := ⟨fun _ _ _ _ => False⟩
noncomputable def r83 (c : Caller Prop FT) (k : KV) (m : Nat) : J83 := Nat.rec z83 (fun _ J => ⟨s83_0 c k J⟩) m
noncomputable def f83 (J : J83) : Jump := fun L f h => match L with
  | 0 => asS (f 0) fun l_0 c_0 => J.a0 l_0 c_0 (f 1) h
  | _ => False
noncomputable def u83 : Cuts := [(.root, 0)]
noncomputable def d84 : Code := Option.rec .skip (fun c => c) Go.Proofs.Tryz.f84.body
noncomputable def q84 : Plans := []
structure J84 where
  a0 : AV → Nat → Nat → H → Prop
noncomputable def s84_0 (c : Caller Prop FT) (k : KV) (_J : J84) (v_0 : AV) (l_1 : Nat) (c_1 : Nat) (h : H) : Prop :=
 c (.func 109) [v_0] h fun _ h2 =>
 oK (exNil v_0 h2) fun v3 h4 =>
 fAddr 1 v3 fun v5 =>
 ld1 v5 h4 fun v6 =>
 oK (builtinA env .append [23, 9] [v6, (.str l_1 c_1)] h4) fun v7 h8 =>
 oK (exNil v_0 h8) fun v9 h10 =>
 fAddr 1 v9 fun v11 =>
 st1 v11 v7 h10 fun h12 =>
 k (.tuple [(.int .i64 (Int.ofNat l_1)), .nili]) h12
noncomputable def z84 : J84 := ⟨fun _ _ _ _ => False⟩
noncomputable def r84 (c : Caller Prop FT) (k : KV) (m : Nat) : J84 := Nat.rec z84 (fun _ J => ⟨s84_0 c k J⟩) m
noncomputable def f84 (J : J84) : Jump := fun L f h => match L with
  | 0 => asS (f 1) fun l_1 c_1 => J.a0 (f 0) l_1 c_1 h
  | _ => False
noncomputable def u84 : Cuts := [(.root, 0)]
noncomputable def d86 : Code := Option.rec .skip (fun c => c) Go.Proofs.Tryz.f86.body
noncomputable def q86 : Plans := []
structure J86 where
  a0 : Nat → Nat → Nat → Nat → Int → H → Prop
noncomputable def s86_0 (_c : Caller Prop FT) (k : KV) (_J : J86) (l_0 : Nat) (c_0 : Nat) (l_1 : Nat) (c_1 : Nat) (n_2 : Int) (h : H) : Prop :=
 Hp.newK h (rowOf 9 [(.str l_0 c_0)]) fun p1 h2 =>
 Hp.newK h2 (rowOf 9 [(.str l_1 c_1)]) fun p3 h4 =>
 Hp.newK h4 (rowOf 3 [(.int .i64 n_2)]) fun p5 h6 =>
 k (.func (.func 110) [] [(.ptr p3 0), (.ptr p1 0), (.ptr p5 0)]) h6
noncomputable def z86 : J86 := ⟨fun _ _ _ _ _ _ => False⟩
noncomputable def r86 (c : Caller Prop FT) (k : KV) (m : Nat) : J86 := Nat.rec z86 (fun _ J => ⟨s86_0 c k J⟩) m
noncomputable def f86 (J : J86) : Jump := fun L f h => match L with
  | 0 => asS (f 0) fun l_0 c_0 => asS (f 1) fun l_1 c_1 => asI .i64 (f 2) fun n_2 => J.a0 l_0 c_0 l_1 c_1 n_2 h
  | _ => False
noncomputable def u86 : Cuts := [(.root, 0)]
noncomputable def d87 : Code := Option.rec .skip (fun c => c) Go.Proofs.Tryz.f87.body
noncomputable def q87 : Plans := []
structure J87 where
  a0 : Int → H → Prop
noncomputable def s87_0 (_c : Caller Prop FT) (k : KV) (_J : J87) (n_0 : Int) (h : H) : Prop :=
 joinB (fun k1 => gate true (ible (Int.ofNat 97) n_0)
 (k1 (ible n_0 (Int.ofNat 122)) h)
 (k1 false h)) fun b3 h2 =>
 joinB (fun k4 => gate false b3
 (joinB (fun k7 => gate true (ible (Int.ofNat 65) n_0)
 (k7 (ible n_0 (Int.ofNat 90)) h2)
 (k7 false h2)) fun b9 h8 =>
 k4 b9 h8)
 (k4 true h2)) fun b6 h5 =>
 joinB (fun k10 => gate false b6
 (joinB (fun k13 => gate true (ible (Int.ofNat 48) n_0)
 (k13 (ible n_0 (Int.ofNat 57)) h5)
 (k13 false h5)) fun b15 h14 =>
 k10 b15 h14)
 (k10 true h5)) fun b12 h11 =>
 joinB (fun k16 => gate false b12
 (k16 (ibeq n_0 (Int.ofNat 46)) h11)
 (k16 true h11)) fun b18 h17 =>
 joinB (fun k19 => gate false b18
 (k19 (ibeq n_0 (Int.ofNat 45)) h17)
 (k19 true h17)) fun b21 h20 =>
 joinB (fun k22 => gate false b21
 (k22 (ibeq n_0 (Int.ofNat 95)) h20)
 (k22 true h20)) fun b24 h23 =>
 k (.bool b24) h23
noncomputable def z87 : J87 := ⟨fun _ _ => False⟩
noncomputable def r87 (c : Caller Prop FT) (k : KV) (m : Nat) : J87 := Nat.rec z87 (fun _ J => ⟨s87_0 c k J⟩) m
noncomputable def f87 (J : J87) : Jump := fun L f h => match L with
  | 0 => asI .u8 (f 0) fun n_0 => J.a0 n_0 h
  | _ => False
noncomputable def u87 : Cuts := [(.root, 0)]
noncomputable def d88 : Code := Option.rec .skip (fun c => c) Go.Proofs.Tryz.f88.body
noncomputable def q88 : Plans := []
structure J88 where
  a0 : Nat → Nat → H → Prop
noncomputable def s88_0 (_c : Caller Prop FT) (k : KV) (_J : J88) (l_0 : Nat) (c_0 : Nat) (h : H) : Prop :=
 cnd (strEq l_0 c_0 0 0)
 (k .nilp h)
 (oK (exBuild env (env.ty 195) [(0, (.str l_0 c_0)), (3, (.int .i64 (Int.ofNat l_0))), (4, (.int .i64 (Int.ofNat 1)))] h) fun v1 h2 =>
 asG v1 fun g3 =>
 chk (Nat.ble 1 (len g3)) <|
 Hp.newK h2 (rowOf 195 g3) fun p4 h5 =>
 k (.ptr p4 0) h5)
noncomputable def z88 : J88 := ⟨fun _ _ _ => False⟩
noncomputable def r88 (c : Caller Prop FT) (k : KV) (m : Nat) : J88 := Nat.rec z88 (fun _ J => ⟨s88_0 c k J⟩) m
noncomputable def f88 (J : J88) : Jump := fun L f h => match L with
  | 0 => asS (f 0) fun l_0 c_0 => J.a0 l_0 c_0 h
  | _ => False
noncomputable def u88 : Cuts := [(.root, 0)]
noncomputable def d89 : Code := Option.rec .skip (fun c => c) Go.Proofs.Tryz.f89.body
noncomputable def q89 : Plans := []
noncomputable def u89 : Cuts := [(.root, 0)]
noncomputable def d90 : Code := Option.rec .skip (fun c => c) Go.Proofs.Tryz.f90.body
noncomputable def q90 : Plans := []
structure J90 where
  a0 : AV → Int → H → Prop
noncomputable def s90_0 (c : Caller Prop FT) (k : KV) (_J : J90) (v_0 : AV) (n_1 : Int) (h : H) : Prop :=
 oK (exNil v_0 h) fun v1 h2 =>
 fAddr 0 v1 fun v3 =>
 c (.func 114) [v3, (.int .i64 n_1)] h2 fun v4 h5 =>
 asI .i64 v4 fun n6 =>
 k (.int .i64 n6) h5
noncomputable def z90 : J90 := ⟨fun _ _ _ => False⟩
noncomputable def r90 (c : Caller Prop FT) (k : KV) (m : Nat) : J90 := Nat.rec z90 (fun _ J => ⟨s90_0 c k J⟩) m
noncomputable def f90 (J : J90) : Jump := fun L f h => match L with
  | 0 => asI .i64 (f 1) fun n_1 => J.a0 (f 0) n_1 h
  | _ => False
noncomputable def u90 : Cuts := [(.root, 0)]
noncomputable def d92 : Code := Option.rec .skip (fun c => c) Go.Proofs.Tryz.f92.body
noncomputable def q92 : Plans := [(7, [0, 1, 2, 3, 4, 5, 6, 7, 8])]
structure J92 where
  a0 : AV → AV → H → Prop
noncomputable def s92_0 (c : Caller Prop FT) (k : KV) (_J : J92) (v_0 : AV) (v_1 : AV) (h : H) : Prop :=
 lenV v_1 fun m1 =>
 joinB (fun k2 => gate false (ibeq (Int.ofNat m1) (Int.ofNat 0))
 (elemA 8 0 v_1 fun v5 =>
 ldn 8 v5 h fun v6 =>
 c (.func 115) [v6] h fun v7 h8 =>
 asB v7 fun b9 =>
 k2 (bnot b9) h8)
 (k2 true h)) fun b4 h3 =>
 cnd b4
 (k (.int .i64 (Int.ofNat 0)) h3)
 (lenV v_1 fun m10 =>
 cnd (ibeq (Int.ofNat m10) (Int.ofNat 1))
 (k (.int .i64 (Int.ofNat 1)) h3)
 (elemA 8 1 v_1 fun v11 =>
 fAddr 0 v11 fun v12 =>
 ld1 v12 h3 fun v13 =>
 asI .i64 v13 fun n14 =>
 cnd (bnot (ibeq n14 (Int.ofNat 1)))
 (k (.int .i64 (Int.ofNat 14)) h3)
 (oK (exNil v_0 h3) fun v15 h16 =>
 fAddr 0 v15 fun v17 =>
 elemA 8 1 v_1 fun v18 =>
 fAddr 1 v18 fun v19 =>
 ld1 v19 h16 fun v20 =>
 asS v20 fun l21 c22 =>
 c (.func 116) [v17, (.str l21 c22)] h16 fun v23 h24 =>
 asI .i64 v23 fun n25 =>
 k (.int .i64 n25) h24)))
noncomputable def z92 : J92 := ⟨fun _ _ _ => False⟩
noncomputable def r92 (c : Caller Prop FT) (k : KV) (m : Nat) : J92 := Nat.rec z92 (fun _ J => ⟨s92_0 c k J⟩) m
noncomputable def f92 (J : J92) : Jump := fun L f h => match L with
  | 0 => J.a0 (f 0) (f 1) h
  | _ => False
noncomputable def u92 : Cuts := [(.root, 0)]
noncomputable def d93 : Code := Option.rec .skip (fun c => c) Go.Proofs.Tryz.f93.body
noncomputable def q93 : Plans := [(3, [0, 1, 2, 3, 4, 5, 6, 7, 8, 9, 10, 11, 12, 13, 14, 15]), (10, [0, 1, 2, 3, 4, 5, 6, 7, 8])]
structure J93 where
  a0 : AV → Int → AV → H → Prop
  a1 : AV → AV → H → Prop
  a2 : AV → Int → Bool → H → Prop
  a3 : AV → Int → Int → Bool → H → Prop
  a4 : AV → Int → H → Prop
noncomputable def s93_0 (_c : Caller Prop FT) (_k : KV) (J : J93) (v_0 : AV) (n_1 : Int) (v_2 : AV) (h : H) : Prop :=
 asG v_2 fun g1 =>
 chk (Nat.ble 1 (len g1)) <|
 Hp.newK h (rowOf 165 g1) fun p2 h3 =>
 ldn 4 (.ptr p2 0) h3 fun v4 =>
 oK (exBuild env (env.ty 41) [] h3) fun v5 h6 =>
 oK (exNil v_0 h6) fun v7 h8 =>
 fAddr 6 v7 fun v9 =>
 stn 4 v9 v4 h8 fun h10 =>
 oK (exNil v_0 h10) fun v11 h12 =>
 fAddr 10 v11 fun v13 =>
 stn 3 v13 v5 h12 fun h14 =>
 oK (exNil v_0 h14) fun v15 h16 =>
 fAddr 13 v15 fun v17 =>
 st1 v17 .nils h16 fun h18 =>
 cnd (bnot (ibeq n_1 (Int.ofNat 1)))
 (fAddr 0 (.ptr p2 0) fun v19 =>
 ld1 v19 h18 fun v20 =>
 elemA 8 1 v20 fun v21 =>
 fAddr 3 v21 fun v22 =>
 ldn 3 v22 h18 fun v23 =>
 fAddr 0 (.ptr p2 0) fun v24 =>
 ld1 v24 h18 fun v25 =>
 oK (slice3 env h18 32 v25 (some (natOf (.int .i64 (Int.ofNat 2)))) none none) fun v26 h27 =>
 oK (exNil v_0 h27) fun v28 h29 =>
 fAddr 10 v28 fun v30 =>
 stn 3 v30 v23 h29 fun h31 =>
 ld1 v24 h31 fun v32 =>
 eqC v32 v25 <|
 oK (exNil v_0 h31) fun v33 h34 =>
 fAddr 13 v33 fun v35 =>
 st1 v35 v26 h34 fun h36 =>
 J.a4 v_0 n_1 h36)
 (J.a4 v_0 n_1 h18)
noncomputable def s93_1 (_c : Caller Prop FT) (k : KV) (_J : J93) (v_0 : AV) (v_6 : AV) (h : H) : Prop :=
 oK (exNil v_0 h) fun v37 h38 =>
 fAddr 5 v37 fun v39 =>
 ld1 v39 h38 fun v40 =>
 oK (withElem env 163 (fun e ei => exBuildSlice 1 [(0, v_6)] h38 e ei)) fun v41 h42 =>
 oK (builtinA env .append [163, 163] [v40, v41] h42) fun v43 h44 =>
 oK (exNil v_0 h44) fun v45 h46 =>
 fAddr 5 v45 fun v47 =>
 st1 v47 v43 h46 fun h48 =>
 k (.tuple []) h48
noncomputable def s93_2 (c : Caller Prop FT) (k : KV) (_J : J93) (v_0 : AV) (n_1 : Int) (b_81 : Bool) (h : H) : Prop :=
 cnd b_81
 (c (.func 118) [v_0, (.int .i64 n_1)] h fun _ h50 =>
 k (.tuple []) h50)
 (c (.func 94) [v_0] h fun v51 h52 =>
 asB v51 fun b53 =>
 cnd (bnot b53)
 (c (.func 119) [v_0, (.int .i64 n_1)] h52 fun _ h55 =>
 k (.tuple []) h55)
 (k (.tuple []) h52))
noncomputable def s93_3 (c : Caller Prop FT) (_k : KV) (J : J93) (v_0 : AV) (n_1 : Int) (n_34 : Int) (b_41 : Bool) (h : H) : Prop :=
 cnd b_41
 (oK (exNil v_0 h) fun v56 h57 =>
 fAddr 10 v56 fun v58 =>
 ldn 3 v58 h57 fun v59 =>
 c (.func 94) [v_0] h57 fun v60 h61 =>
 asB v60 fun b62 =>
 ldn 3 v58 h61 fun v63 =>
 eqC v63 v59 <|
 oK (exBuild env (env.ty 171) [(0, v59), (1, (.bool b62))] h61) fun v64 h65 =>
 asG v64 fun g66 =>
 chk (Nat.ble 1 (len g66)) <|
 Hp.newK h65 (rowOf 171 g66) fun p67 h68 =>
 oK (exNil (.ptr p67 0) h68) fun v69 h70 =>
 fAddr 3 v69 fun v71 =>
 ld1 v71 h70 fun v72 =>
 asB v72 fun b73 =>
 cnd (bnot b73)
 (c (.func 117) [v_0, (.int .i64 n_1)] h70 fun v74 h75 =>
 asB v74 fun b76 =>
 oK (exNil (.ptr p67 0) h75) fun v77 h78 =>
 fAddr 4 v77 fun v79 =>
 st1 v79 (.bool b76) h78 fun h80 =>
 oK (exNil (.ptr p67 0) h80) fun v81 h82 =>
 fAddr 4 v81 fun v83 =>
 ld1 v83 h82 fun v84 =>
 asB v84 fun b85 =>
 oK (exNil (.ptr p67 0) h82) fun v86 h87 =>
 fAddr 5 v86 fun v88 =>
 st1 v88 (.bool b85) h87 fun h89 =>
 J.a1 v_0 (.ptr p67 0) h89)
 (J.a1 v_0 (.ptr p67 0) h70))
 (cnd (ibeq n_34 (Int.ofNat 5))
 (J.a2 v_0 n_1 (ibeq n_34 (Int.ofNat 5)) h)
 (cnd (ibeq n_34 (Int.ofNat 6))
 (J.a2 v_0 n_1 (ibeq n_34 (Int.ofNat 6)) h)
 (J.a2 v_0 n_1 (ibeq n_34 (Int.ofNat 7)) h)))
noncomputable def s93_4 (_c : Caller Prop FT) (_k : KV) (J : J93) (v_0 : AV) (n_1 : Int) (h : H) : Prop :=
 cnd (ibeq n_1 (Int.ofNat 2))
 (J.a3 v_0 n_1 n_1 (ibeq n_1 (Int.ofNat 2)) h)
 (cnd (ibeq n_1 (Int.ofNat 3))
 (J.a3 v_0 n_1 n_1 (ibeq n_1 (Int.ofNat 3)) h)
 (J.a3 v_0 n_1 n_1 (ibeq n_1 (Int.ofNat 4)) h))
noncomputable def z93 : J93 := ⟨fun _ _ _ _ => False, fun _ _ _ => False, fun _ _ _ _ => False, fun _ _ _ _ _ => False, fun _ _ _ => False⟩
noncomputable def r93 (c : Caller Prop FT) (k : KV) (m : Nat) : J93 := Nat.rec z93 (fun _ J => ⟨s93_0 c k J, s93_1 c k J, s93_2 c k J, s93_3 c k J, s93_4 c k J⟩) m
noncomputable def f93 (J : J93) : Jump := fun L f h => match L with
  | 0 => asI .i64 (f 1) fun n_1 => J.a0 (f 0) n_1 (f 2) h
  | 1 => J.a1 (f 0) (f 6) h
  | 2 => asI .i64 (f 1) fun n_1 => asB (f 81) fun b_81 => J.a2 (f 0) n_1 b_81 h
  | 3 => asI .i64 (f 1) fun n_1 => asI .i64 (f 34) fun n_34 => asB (f 41) fun b_41 => J.a3 (f 0) n_1 n_34 b_41 h
  | 4 => asI .i64 (f 1) fun n_1 => J.a4 (f 0) n_1 h
  | _ => False
noncomputable def u93 : Cuts := [(.root, 0), ((.r (.r (.l (.r (.l (.r (.r (.r (.r .root))))))))), 1), ((.r (.r (.r (.l (.r (.r (.r (.r .root)))))))), 2), ((.r (.l (.r (.r (.r (.r .root)))))), 3), ((.r (.r (.r .root))), 4)]
noncomputable def d94 : Code := Option.rec .skip (fun c => c) Go.Proofs.Tryz.f94.body
noncomputable def q94 : Plans := [(1, [0, 1, 2, 3, 4, 5, 6, 7, 8, 9, 10, 11, 12, 13, 14, 15, 16, 17, 18, 19, 20, 21, 22, 23, 24])]
structure J94 where
  a0 : AV → H → Prop
noncomputable def s94_0 (_c : Caller Prop FT) (k : KV) (_J : J94) (v_0 : AV) (h : H) : Prop :=
 oK (exNil v_0 h) fun v1 h2 =>
 fAddr 5 v1 fun v3 =>
 ld1 v3 h2 fun v4 =>
 lenV v4 fun m5 =>
 joinB (fun k6 => gate true (iblt (Int.ofNat 0) (Int.ofNat m5))
 (oK (exNil v_0 h2) fun v9 h10 =>
 fAddr 5 v9 fun v11 =>
 ld1 v11 h10 fun v12 =>
 oK (exNil v_0 h10) fun v13 h14 =>
 fAddr 5 v13 fun v15 =>
 ld1 v15 h14 fun v16 =>
 lenV v16 fun m17 =>
 fI (wrap .i64 (isub (Int.ofNat m17) (Int.ofNat 1))) fun n18 =>
 natI n18 fun m19 =>
 elemA 1 m19 v12 fun v20 =>
 ld1 v20 h14 fun v21 =>
 oK (exNil v21 h14) fun v22 h23 =>
 fAddr 4 v22 fun v24 =>
 ld1 v24 h23 fun v25 =>
 asB v25 fun b26 =>
 k6 (bnot b26) h23)
 (k6 false h2)) fun b8 h7 =>
 k (.bool b8) h7
noncomputable def z94 : J94 := ⟨fun _ _ => False⟩
noncomputable def r94 (c : Caller Prop FT) (k : KV) (m : Nat) : J94 := Nat.rec z94 (fun _ J => ⟨s94_0 c k J⟩) m
noncomputable def f94 (J : J94) : Jump := fun L f h => match L with
  | 0 => J.a0 (f 0) h
  | _ => False
noncomputable def u94 : Cuts := [(.root, 0)]
noncomputable def d95 : Code := Option.rec .skip (fun c => c) Go.Proofs.Tryz.f95.body
noncomputable def q95 : Plans := [(1, [0, 1, 2, 3, 4, 5, 6, 7, 8, 9, 10, 11, 12])]
structure J95 where
  a0 : AV → AV → H → Prop
  a1 : AV → AV → AV → Int → Int → H → Prop
noncomputable def s95_0 (_c : Caller Prop FT) (_k : KV) (J : J95) (v_0 : AV) (v_1 : AV) (h : H) : Prop :=
 asG v_1 fun g1 =>
 chk (Nat.ble 1 (len g1)) <|
 Hp.newK h (rowOf 123 g1) fun p2 h3 =>
 oK (exNil v_0 h3) fun v4 h5 =>
 fAddr 8 v4 fun v6 =>
 fAddr 1 v6 fun v7 =>
 ld1 v7 h5 fun v8 =>
 fAddr 1 (.ptr p2 0) fun v9 =>
 ld1 v9 h5 fun v10 =>
 oK (builtinA env .append [33, 33] [v8, v10] h5) fun v11 h12 =>
 oK (exNil v_0 h12) fun v13 h14 =>
 fAddr 8 v13 fun v15 =>
 fAddr 1 v15 fun v16 =>
 st1 v16 v11 h14 fun h17 =>
 oK (exNil v_0 h17) fun v18 h19 =>
 fAddr 8 v18 fun v20 =>
 fAddr 4 v20 fun v21 =>
 ld1 v21 h19 fun v22 =>
 asB v22 fun b23 =>
 joinB (fun k24 => gate false b23
 (fAddr 2 (.ptr p2 0) fun v27 =>
 ld1 v27 h19 fun v28 =>
 asB v28 fun b29 =>
 k24 b29 h19)
 (k24 true h19)) fun b26 h25 =>
 oK (exNil v_0 h25) fun v30 h31 =>
 fAddr 8 v30 fun v32 =>
 fAddr 4 v32 fun v33 =>
 st1 v33 (.bool b26) h31 fun h34 =>
 fAddr 3 (.ptr p2 0) fun v35 =>
 ld1 v35 h34 fun v36 =>
 lenV v36 fun m37 =>
 J.a1 v_0 (.ptr p2 0) v36 (Int.ofNat m37) (Int.ofNat 0) h34
noncomputable def s95_1 (_c : Caller Prop FT) (k : KV) (J : J95) (v_0 : AV) (v_3 : AV) (v_33 : AV) (n_34 : Int) (n_35 : Int) (h : H) : Prop :=
 cnd (iblt n_35 n_34)
 (natI n_35 fun m38 =>
 elemA 1 m38 v_33 fun v39 =>
 ld1 v39 h fun v40 =>
 asS v40 fun l41 c42 =>
 oK (exNil v_0 h) fun v43 h44 =>
 fAddr 14 v43 fun v45 =>
 ld1 v45 h44 fun v46 =>
 oK (exLookup env 107 v46 (.str l41 c42) false h44) fun v47 h48 =>
 asI .i64 v47 fun n49 =>
 fI (wrap .i64 (iadd n49 (Int.ofNat 1))) fun n50 =>
 oK (exMapUpdate env 107 v46 (.str l41 c42) (.int .i64 n50) h48) fun _ h52 =>
 fI (wrap .i64 (iadd n_35 (Int.ofNat 1))) fun n53 =>
 J.a1 v_0 v_3 v_33 n_34 n53 h52)
 (fAddr 0 v_3 fun v54 =>
 ld1 v54 h fun v55 =>
 k v55 h)
noncomputable def z95 : J95 := ⟨fun _ _ _ => False, fun _ _ _ _ _ _ => False⟩
noncomputable def r95 (c : Caller Prop FT) (k : KV) (m : Nat) : J95 := Nat.rec z95 (fun _ J => ⟨s95_0 c k J, s95_1 c k J⟩) m
noncomputable def f95 (J : J95) : Jump := fun L f h => match L with
  | 0 => J.a0 (f 0) (f 1) h
  | 1 => asI .i64 (f 34) fun n_34 => asI .i64 (f 35) fun n_35 => J.a1 (f 0) (f 3) (f 33) n_34 n_35 h
  | _ => False
noncomputable def u95 : Cuts := [(.root, 0), ((.l (.r (.l (.r (.r (.r .root)))))), 1)]
noncomputable def d96 : Code := Option.rec .skip (fun c => c) Go.Proofs.Tryz.f96.body
noncomputable def q96 : Plans := [(4294967294, [2]), (4294967295, [13])]
noncomputable def lp96_0 : LpS := lpOf q96 (codeAt d96 (.l (.r (.l (.r .root)))))
noncomputable def u96 : Cuts := [(.root, 0)]
noncomputable def d97 : Code := Option.rec .skip (fun c => c) Go.Proofs.Tryz.f97.body
noncomputable def q97 : Plans := [(17, [0, 1, 2, 3, 4, 5, 6, 7, 8, 9, 10, 11, 12, 13, 14])]
structure J97 where
  a0 : AV → Int → Int → Int → H → Prop
  a1 : AV → Int → Int → Int → Bool → Bool → H → Prop
  a2 : AV → Int → Int → Int → Bool → Bool → Int → Int → H → Prop
  a3 : AV → Int → Int → Int → Bool → Bool → Int → Int → Int → H → Prop
  a4 : AV → Int → Int → Int → Bool → Bool → Int → H → Prop
noncomputable def s97_0 (_c : Caller Prop FT) (_k : KV) (J : J97) (v_0 : AV) (n_1 : Int) (n_2 : Int) (n_3 : Int) (h : H) : Prop :=
 J.a1 v_0 n_1 n_2 n_3 true true h
noncomputable def s97_1 (c : Caller Prop FT) (k : KV) (J : J97) (v_0 : AV) (n_1 : Int) (n_2 : Int) (n_3 : Int) (b_8 : Bool) (b_9 : Bool) (h : H) : Prop :=
 fI (wrap .i64 (isub n_2 n_1)) fun n1 =>
 cnd (ible n1 (Int.ofNat 12))
 (c (.func 120) [v_0, (.int .i64 n_1), (.int .i64 n_2)] h fun _ h3 =>
 k (.tuple []) h3)
 (cnd (ibeq n_3 (Int.ofNat 0))
 (c (.func 121) [v_0, (.int .i64 n_1), (.int .i64 n_2)] h fun _ h5 =>
 k (.tuple []) h5)
 (cnd (bnot b_8)
 (c (.func 122) [v_0, (.int .i64 n_1), (.int .i64 n_2)] h fun _ h7 =>
 fI (wrap .i64 (isub n_3 (Int.ofNat 1))) fun n8 =>
 J.a4 v_0 n_1 n_2 n8 b_8 b_9 n1 h7)
 (J.a4 v_0 n_1 n_2 n_3 b_8 b_9 n1 h)))
noncomputable def s97_2 (c : Caller Prop FT) (_k : KV) (J : J97) (v_0 : AV) (n_1 : Int) (n_2 : Int) (n_3 : Int) (b_8 : Bool) (b_9 : Bool) (n_10 : Int) (n_11 : Int) (h : H) : Prop :=
 joinB (fun k9 => gate true (iblt (Int.ofNat 0) n_1)
 (fI (wrap .i64 (isub n_1 (Int.ofNat 1))) fun n12 =>
 natI n12 fun m13 =>
 elemA 1 m13 v_0 fun v14 =>
 ld1 v14 h fun v15 =>
 asS v15 fun l16 c17 =>
 natI n_11 fun m18 =>
 elemA 1 m18 v_0 fun v19 =>
 ld1 v19 h fun v20 =>
 asS v20 fun l21 c22 =>
 c (.func 126) [(.str l16 c17), (.str l21 c22)] h fun v23 h24 =>
 asB v23 fun b25 =>
 k9 (bnot b25) h24)
 (k9 false h)) fun b11 h10 =>
 cnd b11
 (c (.func 127) [v_0, (.int .i64 n_1), (.int .i64 n_2), (.int .i64 n_11)] h10 fun v26 h27 =>
 asI .i64 v26 fun n28 =>
 J.a1 v_0 n28 n_2 n_3 b_8 b_9 h27)
 (c (.func 128) [v_0, (.int .i64 n_1), (.int .i64 n_2), (.int .i64 n_11)] h10 fun v29 h30 =>
 ext 0 v29 fun v31 =>
 asI .i64 v31 fun n32 =>
 ext 1 v29 fun v33 =>
 asB v33 fun b34 =>
 fI (wrap .i64 (isub n32 n_1)) fun n35 =>
 fI (wrap .i64 (isub n_2 n32)) fun n36 =>
 quoI .i64 n_10 (Int.ofNat 8) fun n37 =>
 cnd (iblt n35 n36)
 (c (.func 97) [v_0, (.int .i64 n_1), (.int .i64 n32), (.int .i64 n_3)] h30 fun _ h39 =>
 fI (wrap .i64 (iadd n32 (Int.ofNat 1))) fun n40 =>
 J.a1 v_0 n40 n_2 n_3 (ible n37 n35) b34 h39)
 (fI (wrap .i64 (iadd n32 (Int.ofNat 1))) fun n41 =>
 c (.func 97) [v_0, (.int .i64 n41), (.int .i64 n_2), (.int .i64 n_3)] h30 fun _ h43 =>
 J.a1 v_0 n_1 n32 n_3 (ible n37 n36) b34 h43))
noncomputable def s97_3 (c : Caller Prop FT) (k : KV) (J : J97) (v_0 : AV) (n_1 : Int) (n_2 : Int) (n_3 : Int) (b_8 : Bool) (b_9 : Bool) (n_10 : Int) (n_11 : Int) (n_12 : Int) (h : H) : Prop :=
 joinB (fun k44 => gate true b_8
 (k44 b_9 h)
 (k44 false h)) fun b46 h45 =>
 joinB (fun k47 => gate true b46
 (k47 (ibeq n_12 (Int.ofNat 1)) h45)
 (k47 false h45)) fun b49 h48 =>
 cnd b49
 (c (.func 125) [v_0, (.int .i64 n_1), (.int .i64 n_2)] h48 fun v50 h51 =>
 asB v50 fun b52 =>
 cnd b52
 (k (.tuple []) h51)
 (J.a2 v_0 n_1 n_2 n_3 b_8 b_9 n_10 n_11 h51))
 (J.a2 v_0 n_1 n_2 n_3 b_8 b_9 n_10 n_11 h48)
noncomputable def s97_4 (c : Caller Prop FT) (_k : KV) (J : J97) (v_0 : AV) (n_1 : Int) (n_2 : Int) (n_3 : Int) (b_8 : Bool) (b_9 : Bool) (n_10 : Int) (h : H) : Prop :=
 c (.func 123) [v_0, (.int .i64 n_1), (.int .i64 n_2)] h fun v53 h54 =>
 ext 0 v53 fun v55 =>
 asI .i64 v55 fun n56 =>
 ext 1 v53 fun v57 =>
 asI .i64 v57 fun n58 =>
 cnd (ibeq n58 (Int.ofNat 2))
 (c (.func 124) [v_0, (.int .i64 n_1), (.int .i64 n_2)] h54 fun _ h60 =>
 fI (wrap .i64 (isub n_2 (Int.ofNat 1))) fun n61 =>
 fI (wrap .i64 (isub n56 n_1)) fun n62 =>
 fI (wrap .i64 (isub n61 n62)) fun n63 =>
 J.a3 v_0 n_1 n_2 n_3 b_8 b_9 n_10 n63 (Int.ofNat 1) h60)
 (J.a3 v_0 n_1 n_2 n_3 b_8 b_9 n_10 n56 n58 h54)
noncomputable def z97 : J97 := ⟨fun _ _ _ _ _ => False, fun _ _ _ _ _ _ _ => False, fun _ _ _ _ _ _ _ _ _ => False, fun _ _ _ _ _ _ _ _ _ _ => False, fun _ _ _ _ _ _ _ _ => False⟩
noncomputable def r97 (c : Caller Prop FT) (k : KV) (m : Nat) : J97 := Nat.rec z97 (fun _ J => ⟨s97_0 c k J, s97_1 c k J, s97_2 c k J, s97_3 c k J, s97_4 c k J⟩) m
noncomputable def f97 (J : J97) : Jump := fun L f h => match L with
  | 0 => asI .i64 (f 1) fun n_1 => asI .i64 (f 2) fun n_2 => asI .i64 (f 3) fun n_3 => J.a0 (f 0) n_1 n_2 n_3 h
  | 1 => asI .i64 (f 1) fun n_1 => asI .i64 (f 2) fun n_2 => asI .i64 (f 3) fun n_3 => asB (f 8) fun b_8 => asB (f 9) fun b_9 => J.a1 (f 0) n_1 n_2 n_3 b_8 b_9 h
  | 2 => asI .i64 (f 1) fun n_1 => asI .i64 (f 2) fun n_2 => asI .i64 (f 3) fun n_3 => asB (f 8) fun b_8 => asB (f 9) fun b_9 => asI .i64 (f 10) fun n_10 => asI .i64 (f 11) fun n_11 => J.a2 (f 0) n_1 n_2 n_3 b_8 b_9 n_10 n_11 h
  | 3 => asI .i64 (f 1) fun n_1 => asI .i64 (f 2) fun n_2 => asI .i64 (f 3) fun n_3 => asB (f 8) fun b_8 => asB (f 9) fun b_9 => asI .i64 (f 10) fun n_10 => asI .i64 (f 11) fun n_11 => asI .i64 (f 12) fun n_12 => J.a3 (f 0) n_1 n_2 n_3 b_8 b_9 n_10 n_11 n_12 h
  | 4 => asI .i64 (f 1) fun n_1 => asI .i64 (f 2) fun n_2 => asI .i64 (f 3) fun n_3 => asB (f 8) fun b_8 => asB (f 9) fun b_9 => asI .i64 (f 10) fun n_10 => J.a4 (f 0) n_1 n_2 n_3 b_8 b_9 n_10 h
  | _ => False
noncomputable def u97 : Cuts := [(.root, 0), ((.l (.r (.r .root))), 1), ((.r (.r (.r (.r (.r (.r (.r (.l (.l (.l (.r (.r .root)))))))))))), 2), ((.r (.r (.r (.r (.r (.r (.l (.l (.l (.r (.r .root))))))))))), 3), ((.r (.r (.r (.r (.l (.l (.l (.r (.r .root))))))))), 4)]
noncomputable def d98 : Code := Option.rec .skip (fun c => c) Go.Proofs.Tryz.f98.body
noncomputable def q98 : Plans := []
structure J98 where
  a0 : Int → H → Prop
noncomputable def s98_0 (c : Caller Prop FT) (k : KV) (_J : J98) (n_0 : Int) (h : H) : Prop :=
 cnd false
 (fI (wrap .u32 n_0) fun n1 =>
 c (.func 129) [(.int .u32 n1)] h fun v2 h3 =>
 asI .i64 v2 fun n4 =>
 k (.int .i64 n4) h3)
 (c (.func 130) [(.int .u64 n_0)] h fun v5 h6 =>
 asI .i64 v5 fun n7 =>
 k (.int .i64 n7) h6)
noncomputable def z98 : J98 := ⟨fun _ _ => False⟩
noncomputable def r98 (c : Caller Prop FT) (k : KV) (m : Nat) : J98 := Nat.rec z98 (fun _ J => ⟨s98_0 c k J⟩) m
noncomputable def f98 (J : J98) : Jump := fun L f h => match L with
  | 0 => asI .u64 (f 0) fun n_0 => J.a0 n_0 h
  | _ => False
noncomputable def u98 : Cuts := [(.root, 0)]
noncomputable def d99 : Code := Option.rec .skip (fun c => c) Go.Proofs.Tryz.f99.body
noncomputable def q99 : Plans := [(4, [0, 1, 2, 3, 4, 5, 6, 7, 8, 9, 10, 11, 12, 13, 14, 15, 16, 17, 18, 19, 20, 21, 22, 23]), (5, [0, 1, 2, 3, 4, 5, 6, 7, 8, 9, 10, 11]), (11, [0, 1, 2, 3, 4, 5, 6, 7, 8, 9, 10, 11, 12, 13, 14, 15, 16]), (16, [0, 2, 3, 4, 5, 6, 7, 8, 9, 10, 11, 12, 13, 14, 15, 16, 1, 17, 18, 19])]
structure J99 where
  a0 : AV → H → Prop
  a1 : AV → AV → Bool → AV → Int → Int → AV → Int → Int → H → Prop
  a2 : AV → AV → Bool → Bool → AV → H → Prop
  a3 : AV → AV → Bool → AV → Int → Int → AV → Int → Int → H → Prop
  a4 : AV → Bool → Bool → H → Prop
  a5 : AV → AV → Bool → Bool → AV → Bool → H → Prop
noncomputable def s99_0 (c : Caller Prop FT) (_k : KV) (J : J99) (v_0 : AV) (h : H) : Prop :=
 Hp.newK h ob45 fun p1 h2 =>
 Hp.newK h2 ob198 fun p3 h4 =>
 oK (exNil v_0 h4) fun v5 h6 =>
 fAddr 2 v5 fun v7 =>
 ld1 v7 h6 fun v8 =>
 asI .i64 v8 fun n9 =>
 oK (exNil v_0 h6) fun v10 h11 =>
 fAddr 1 v10 fun v12 =>
 ld1 v12 h11 fun v13 =>
 lenV v13 fun m14 =>
 joinB (fun k15 => gate false (ible (Int.ofNat m14) n9)
 (oK (exNil v_0 h11) fun v18 h19 =>
 fAddr 1 v18 fun v20 =>
 ld1 v20 h19 fun v21 =>
 oK (exNil v_0 h19) fun v22 h23 =>
 fAddr 2 v22 fun v24 =>
 ld1 v24 h23 fun v25 =>
 asI .i64 v25 fun n26 =>
 natI n26 fun m27 =>
 elemA 3 m27 v21 fun v28 =>
 fAddr 0 v28 fun v29 =>
 ld1 v29 h23 fun v30 =>
 asI .u8 v30 fun n31 =>
 k15 (ibeq n31 (Int.ofNat 10)) h23)
 (k15 true h11)) fun b17 h16 =>
 cnd b17
 (J.a4 (.ptr p1 0) false false h16)
 (oK (exNil v_0 h16) fun v32 h33 =>
 fAddr 1 v32 fun v34 =>
 ld1 v34 h33 fun v35 =>
 oK (exNil v_0 h33) fun v36 h37 =>
 fAddr 2 v36 fun v38 =>
 ld1 v38 h37 fun v39 =>
 asI .i64 v39 fun n40 =>
 natI n40 fun m41 =>
 elemA 3 m41 v35 fun v42 =>
 fAddr 0 v42 fun v43 =>
 ld1 v43 h37 fun v44 =>
 asI .u8 v44 fun n45 =>
 c (.func 131) [(.int .u8 n45)] h37 fun v46 h47 =>
 asB v46 fun b48 =>
 cnd b48
 (oK (exNil v_0 h47) fun v49 h50 =>
 fAddr 2 v49 fun v51 =>
 ld1 v51 h50 fun v52 =>
 asI .i64 v52 fun n53 =>
 fI (wrap .i64 (iadd n53 (Int.ofNat 1))) fun n54 =>
 oK (exNil v_0 h50) fun v55 h56 =>
 fAddr 2 v55 fun v57 =>
 st1 v57 (.int .i64 n54) h56 fun h58 =>
 oK (exNil v_0 h58) fun v59 h60 =>
 fAddr 4 v59 fun v61 =>
 st1 v61 (.bool true) h60 fun h62 =>
 J.a2 v_0 (.ptr p1 0) false false (.ptr p3 0) h62)
 (c (.func 132) [v_0] h47 fun v63 h64 =>
 ext 0 v63 fun v65 =>
 asB v65 fun b66 =>
 ext 1 v63 fun v67 =>
 asB v67 fun b68 =>
 J.a5 v_0 (.ptr p1 0) b68 false (.ptr p3 0) b66 h64))
noncomputable def s99_1 (c : Caller Prop FT) (k : KV) (J : J99) (v_0 : AV) (v_2 : AV) (b_3 : Bool) (v_5 : AV) (n_7 : Int) (n_8 : Int) (v_86 : AV) (n_87 : Int) (n_88 : Int) (h : H) : Prop :=
 cnd (iblt n_88 n_87)
 (natI n_88 fun m69 =>
 elemA 3 m69 v_86 fun v70 =>
 ldn 3 v70 h fun v71 =>
 Hp.newK h ob180 fun p72 h73 =>
 stn 3 (.ptr p72 0) v71 h73 fun h74 =>
 fAddr 0 (.ptr p72 0) fun v75 =>
 ld1 v75 h74 fun v76 =>
 asI .u8 v76 fun n77 =>
 c (.func 80) [v_5, (.int .u8 n77)] h74 fun _ h79 =>
 fI (wrap .i64 (iadd n_88 (Int.ofNat 1))) fun n80 =>
 J.a1 v_0 v_2 b_3 v_5 n_7 n_8 v_86 n_87 n80 h79)
 (oK (exNil v_0 h) fun v81 h82 =>
 fAddr 4 v81 fun v83 =>
 ld1 v83 h82 fun v84 =>
 asB v84 fun b85 =>
 oK (exNil v_0 h82) fun v86 h87 =>
 fAddr 2 v86 fun v88 =>
 ld1 v88 h87 fun v89 =>
 asI .i64 v89 fun n90 =>
 oK (exNil v_0 h87) fun v91 h92 =>
 fAddr 2 v91 fun v93 =>
 ld1 v93 h92 fun v94 =>
 asI .i64 v94 fun n95 =>
 fI (wrap .i64 (iadd n95 n_8)) fun n96 =>
 c (.func 81) [v_5] h92 fun v97 h98 =>
 asS v97 fun l99 c100 =>
 ld1 v83 h98 fun v101 =>
 asB v101 fun b102 =>
 eqC (.bool b102) (.bool b85) <|
 ld1 v88 h98 fun v103 =>
 asI .i64 v103 fun n104 =>
 eqC (.int .i64 n104) (.int .i64 n90) <|
 ld1 v93 h98 fun v105 =>
 asI .i64 v105 fun n106 =>
 eqC (.int .i64 n106) (.int .i64 n95) <|
 c (.func 134) [v_0, (.int .i64 n90), (.int .i64 n96)] h98 fun v107 h108 =>
 ld1 v83 h108 fun v109 =>
 asB v109 fun b110 =>
 eqC (.bool b110) (.bool b85) <|
 oK (exBuild env (env.ty 45) [(0, (.int .i64 n_7)), (1, (.str l99 c100)), (2, (.bool b85)), (3, v107)] h108) fun v111 h112 =>
 stn 8 v_2 v111 h112 fun h113 =>
 oK (exNil v_0 h113) fun v114 h115 =>
 fAddr 2 v114 fun v116 =>
 ld1 v116 h115 fun v117 =>
 asI .i64 v117 fun n118 =>
 fI (wrap .i64 (iadd n118 n_8)) fun n119 =>
 oK (exNil v_0 h115) fun v120 h121 =>
 fAddr 2 v120 fun v122 =>
 st1 v122 (.int .i64 n119) h121 fun h123 =>
 oK (exNil v_0 h123) fun v124 h125 =>
 fAddr 4 v124 fun v126 =>
 st1 v126 (.bool false) h125 fun h127 =>
 ldn 8 v_2 h127 fun v128 =>
 stn 8 v_2 v128 h127 fun h129 =>
 ldn 8 v_2 h129 fun v130 =>
 k (.tuple [v130, (.bool b_3), (.bool true)]) h129)
noncomputable def s99_2 (c : Caller Prop FT) (_k : KV) (J : J99) (v_0 : AV) (v_2 : AV) (b_3 : Bool) (b_4 : Bool) (v_5 : AV) (h : H) : Prop :=
 oK (exNil v_0 h) fun v131 h132 =>
 fAddr 2 v131 fun v133 =>
 ld1 v133 h132 fun v134 =>
 asI .i64 v134 fun n135 =>
 oK (exNil v_0 h132) fun v136 h137 =>
 fAddr 1 v136 fun v138 =>
 ld1 v138 h137 fun v139 =>
 lenV v139 fun m140 =>
 joinB (fun k141 => gate false (ible (Int.ofNat m140) n135)
 (oK (exNil v_0 h137) fun v144 h145 =>
 fAddr 1 v144 fun v146 =>
 ld1 v146 h145 fun v147 =>
 oK (exNil v_0 h145) fun v148 h149 =>
 fAddr 2 v148 fun v150 =>
 ld1 v150 h149 fun v151 =>
 asI .i64 v151 fun n152 =>
 natI n152 fun m153 =>
 elemA 3 m153 v147 fun v154 =>
 fAddr 0 v154 fun v155 =>
 ld1 v155 h149 fun v156 =>
 asI .u8 v156 fun n157 =>
 k141 (ibeq n157 (Int.ofNat 10)) h149)
 (k141 true h137)) fun b143 h142 =>
 cnd b143
 (J.a4 v_2 b_3 b_4 h142)
 (oK (exNil v_0 h142) fun v158 h159 =>
 fAddr 1 v158 fun v160 =>
 ld1 v160 h159 fun v161 =>
 oK (exNil v_0 h159) fun v162 h163 =>
 fAddr 2 v162 fun v164 =>
 ld1 v164 h163 fun v165 =>
 asI .i64 v165 fun n166 =>
 natI n166 fun m167 =>
 elemA 3 m167 v161 fun v168 =>
 fAddr 0 v168 fun v169 =>
 ld1 v169 h163 fun v170 =>
 asI .u8 v170 fun n171 =>
 c (.func 131) [(.int .u8 n171)] h163 fun v172 h173 =>
 asB v172 fun b174 =>
 cnd b174
 (oK (exNil v_0 h173) fun v175 h176 =>
 fAddr 2 v175 fun v177 =>
 ld1 v177 h176 fun v178 =>
 asI .i64 v178 fun n179 =>
 fI (wrap .i64 (iadd n179 (Int.ofNat 1))) fun n180 =>
 oK (exNil v_0 h176) fun v181 h182 =>
 fAddr 2 v181 fun v183 =>
 st1 v183 (.int .i64 n180) h182 fun h184 =>
 oK (exNil v_0 h184) fun v185 h186 =>
 fAddr 4 v185 fun v187 =>
 st1 v187 (.bool true) h186 fun h188 =>
 J.a2 v_0 v_2 b_3 b_4 v_5 h188)
 (c (.func 132) [v_0] h173 fun v189 h190 =>
 ext 0 v189 fun v191 =>
 asB v191 fun b192 =>
 ext 1 v189 fun v193 =>
 asB v193 fun b194 =>
 cnd b192
 (oK (exNil v_0 h190) fun v195 h196 =>
 fAddr 4 v195 fun v197 =>
 st1 v197 (.bool true) h196 fun h198 =>
 J.a2 v_0 v_2 b194 b_4 v_5 h198)
 (c (.func 133) [v_0] h190 fun v199 h200 =>
 ext 0 v199 fun v201 =>
 asI .i64 v201 fun n202 =>
 ext 1 v199 fun v203 =>
 asI .i64 v203 fun n204 =>
 oK (exNil v_0 h200) fun v205 h206 =>
 fAddr 1 v205 fun v207 =>
 ld1 v207 h206 fun v208 =>
 oK (exNil v_0 h206) fun v209 h210 =>
 fAddr 2 v209 fun v211 =>
 ld1 v211 h210 fun v212 =>
 asI .i64 v212 fun n213 =>
 oK (exNil v_0 h210) fun v214 h215 =>
 fAddr 2 v214 fun v216 =>
 ld1 v216 h215 fun v217 =>
 asI .i64 v217 fun n218 =>
 fI (wrap .i64 (iadd n218 n204)) fun n219 =>
 oK (slice3 env h215 175 v208 (some (natOf (.int .i64 n213))) (some (natOf (.int .i64 n219))) none) fun v220 h221 =>
 lenV v220 fun m222 =>
 J.a3 v_0 v_2 b194 v_5 n202 n204 v220 (Int.ofNat m222) (Int.ofNat 0) h221)))
noncomputable def s99_3 (c : Caller Prop FT) (k : KV) (J : J99) (v_0 : AV) (v_2 : AV) (b_3 : Bool) (v_5 : AV) (n_7 : Int) (n_8 : Int) (v_86 : AV) (n_87 : Int) (n_88 : Int) (h : H) : Prop :=
 cnd (iblt n_88 n_87)
 (natI n_88 fun m223 =>
 elemA 3 m223 v_86 fun v224 =>
 ldn 3 v224 h fun v225 =>
 Hp.newK h ob180 fun p226 h227 =>
 stn 3 (.ptr p226 0) v225 h227 fun h228 =>
 fAddr 0 (.ptr p226 0) fun v229 =>
 ld1 v229 h228 fun v230 =>
 asI .u8 v230 fun n231 =>
 c (.func 80) [v_5, (.int .u8 n231)] h228 fun _ h233 =>
 fI (wrap .i64 (iadd n_88 (Int.ofNat 1))) fun n234 =>
 J.a3 v_0 v_2 b_3 v_5 n_7 n_8 v_86 n_87 n234 h233)
 (oK (exNil v_0 h) fun v235 h236 =>
 fAddr 4 v235 fun v237 =>
 ld1 v237 h236 fun v238 =>
 asB v238 fun b239 =>
 oK (exNil v_0 h236) fun v240 h241 =>
 fAddr 2 v240 fun v242 =>
 ld1 v242 h241 fun v243 =>
 asI .i64 v243 fun n244 =>
 oK (exNil v_0 h241) fun v245 h246 =>
 fAddr 2 v245 fun v247 =>
 ld1 v247 h246 fun v248 =>
 asI .i64 v248 fun n249 =>
 fI (wrap .i64 (iadd n249 n_8)) fun n250 =>
 c (.func 81) [v_5] h246 fun v251 h252 =>
 asS v251 fun l253 c254 =>
 ld1 v237 h252 fun v255 =>
 asB v255 fun b256 =>
 eqC (.bool b256) (.bool b239) <|
 ld1 v242 h252 fun v257 =>
 asI .i64 v257 fun n258 =>
 eqC (.int .i64 n258) (.int .i64 n244) <|
 ld1 v247 h252 fun v259 =>
 asI .i64 v259 fun n260 =>
 eqC (.int .i64 n260) (.int .i64 n249) <|
 c (.func 134) [v_0, (.int .i64 n244), (.int .i64 n250)] h252 fun v261 h262 =>
 ld1 v237 h262 fun v263 =>
 asB v263 fun b264 =>
 eqC (.bool b264) (.bool b239) <|
 oK (exBuild env (env.ty 45) [(0, (.int .i64 n_7)), (1, (.str l253 c254)), (2, (.bool b239)), (3, v261)] h262) fun v265 h266 =>
 stn 8 v_2 v265 h266 fun h267 =>
 oK (exNil v_0 h267) fun v268 h269 =>
 fAddr 2 v268 fun v270 =>
 ld1 v270 h269 fun v271 =>
 asI .i64 v271 fun n272 =>
 fI (wrap .i64 (iadd n272 n_8)) fun n273 =>
 oK (exNil v_0 h269) fun v274 h275 =>
 fAddr 2 v274 fun v276 =>
 st1 v276 (.int .i64 n273) h275 fun h277 =>
 oK (exNil v_0 h277) fun v278 h279 =>
 fAddr 4 v278 fun v280 =>
 st1 v280 (.bool false) h279 fun h281 =>
 ldn 8 v_2 h281 fun v282 =>
 stn 8 v_2 v282 h281 fun h283 =>
 ldn 8 v_2 h283 fun v284 =>
 k (.tuple [v284, (.bool b_3), (.bool true)]) h283)
noncomputable def s99_4 (_c : Caller Prop FT) (k : KV) (_J : J99) (v_2 : AV) (b_3 : Bool) (b_4 : Bool) (h : H) : Prop :=
 ldn 8 v_2 h fun v285 =>
 stn 8 v_2 v285 h fun h286 =>
 ldn 8 v_2 h286 fun v287 =>
 k (.tuple [v287, (.bool b_3), (.bool b_4)]) h286
noncomputable def s99_5 (c : Caller Prop FT) (_k : KV) (J : J99) (v_0 : AV) (v_2 : AV) (b_3 : Bool) (b_4 : Bool) (v_5 : AV) (b_6 : Bool) (h : H) : Prop :=
 cnd b_6
 (oK (exNil v_0 h) fun v288 h289 =>
 fAddr 4 v288 fun v290 =>
 st1 v290 (.bool true) h289 fun h291 =>
 J.a2 v_0 v_2 b_3 b_4 v_5 h291)
 (c (.func 133) [v_0] h fun v292 h293 =>
 ext 0 v292 fun v294 =>
 asI .i64 v294 fun n295 =>
 ext 1 v292 fun v296 =>
 asI .i64 v296 fun n297 =>
 oK (exNil v_0 h293) fun v298 h299 =>
 fAddr 1 v298 fun v300 =>
 ld1 v300 h299 fun v301 =>
 oK (exNil v_0 h299) fun v302 h303 =>
 fAddr 2 v302 fun v304 =>
 ld1 v304 h303 fun v305 =>
 asI .i64 v305 fun n306 =>
 oK (exNil v_0 h303) fun v307 h308 =>
 fAddr 2 v307 fun v309 =>
 ld1 v309 h308 fun v310 =>
 asI .i64 v310 fun n311 =>
 fI (wrap .i64 (iadd n311 n297)) fun n312 =>
 oK (slice3 env h308 175 v301 (some (natOf (.int .i64 n306))) (some (natOf (.int .i64 n312))) none) fun v313 h314 =>
 lenV v313 fun m315 =>
 J.a1 v_0 v_2 b_3 v_5 n295 n297 v313 (Int.ofNat m315) (Int.ofNat 0) h314)
noncomputable def z99 : J99 := ⟨fun _ _ => False, fun _ _ _ _ _ _ _ _ _ _ => False, fun _ _ _ _ _ _ => False, fun _ _ _ _ _ _ _ _ _ _ => False, fun _ _ _ _ => False, fun _ _ _ _ _ _ _ => False⟩
noncomputable def r99 (c : Caller Prop FT) (k : KV) (m : Nat) : J99 := Nat.rec z99 (fun _ J => ⟨s99_0 c k J, s99_1 c k J, s99_2 c k J, s99_3 c k J, s99_4 c k J, s99_5 c k J⟩) m
noncomputable def f99 (J : J99) : Jump := fun L f h => match L with
  | 0 => J.a0 (f 0) h
  | 1 => asB (f 3) fun b_3 => asI .i64 (f 7) fun n_7 => asI .i64 (f 8) fun n_8 => asI .i64 (f 87) fun n_87 => asI .i64 (f 88) fun n_88 => J.a1 (f 0) (f 2) b_3 (f 5) n_7 n_8 (f 86) n_87 n_88 h
  | 2 => asB (f 3) fun b_3 => asB (f 4) fun b_4 => J.a2 (f 0) (f 2) b_3 b_4 (f 5) h
  | 3 => asB (f 3) fun b_3 => asI .i64 (f 7) fun n_7 => asI .i64 (f 8) fun n_8 => asI .i64 (f 87) fun n_87 => asI .i64 (f 88) fun n_88 => J.a3 (f 0) (f 2) b_3 (f 5) n_7 n_8 (f 86) n_87 n_88 h
  | 4 => asB (f 3) fun b_3 => asB (f 4) fun b_4 => J.a4 (f 2) b_3 b_4 h
  | 5 => asB (f 3) fun b_3 => asB (f 4) fun b_4 => asB (f 6) fun b_6 => J.a5 (f 0) (f 2) b_3 b_4 (f 5) b_6 h
  | _ => False
noncomputable def u99 : Cuts := [(.root, 0), ((.l (.r (.l (.r (.r (.r (.r (.r (.r (.r (.r (.l (.r .root))))))))))))), 1), ((.lab (.r .root) 1), 2), ((.l (.r (.l (.r (.r (.r (.r (.r (.lab (.r .root) 1))))))))), 3), ((.lab (.r .root) 0), 4), ((.r (.l (.r (.r (.r (.r (.r (.r (.l (.r .root)))))))))), 5)]
noncomputable def d100 : Code := Option.rec .skip (fun c => c) Go.Proofs.Tryz.f100.body
noncomputable def q100 : Plans := []
structure J100 where
  a0 : AV → Nat → Nat → H → Prop
noncomputable def s100_0 (c : Caller Prop FT) (k : KV) (_J : J100) (v_0 : AV) (l_1 : Nat) (c_1 : Nat) (h : H) : Prop :=
 c (.func 135) [v_0, (.str l_1 c_1)] h fun v1 h2 =>
 ext 0 v1 fun v3 =>
 asI .i64 v3 fun _ =>
 ext 1 v1 fun v5 =>
 asB v5 fun b6 =>
 k (.bool b6) h2
noncomputable def z100 : J100 := ⟨fun _ _ _ _ => False⟩
noncomputable def r100 (c : Caller Prop FT) (k : KV) (m : Nat) : J100 := Nat.rec z100 (fun _ J => ⟨s100_0 c k J⟩) m
noncomputable def f100 (J : J100) : Jump := fun L f h => match L with
  | 0 => asS (f 1) fun l_1 c_1 => J.a0 (f 0) l_1 c_1 h
  | _ => False
noncomputable def u100 : Cuts := [(.root, 0)]
noncomputable def d101 : Code := Option.rec .skip (fun c => c) Go.Proofs.Tryz.f101.body
noncomputable def q101 : Plans := [(1, [0, 1, 2, 3, 4, 5, 6, 7, 8, 9, 10, 11, 12, 13]), (2, [0, 1, 2, 3, 4, 5, 6, 7, 8, 9, 10])]
structure J101 where
  a0 : AV → AV → H → Prop
noncomputable def s101_0 (c : Caller Prop FT) (k : KV) (_J : J101) (v_0 : AV) (v_1 : AV) (h : H) : Prop :=
 asG v_1 fun g1 =>
 chk (Nat.ble 1 (len g1)) <|
 Hp.newK h (rowOf 136 g1) fun p2 h3 =>
 oK (exNil v_0 h3) fun v4 h5 =>
 fAddr 1 v4 fun v6 =>
 ld1 v6 h5 fun v7 =>
 asB v7 fun b8 =>
 joinB (fun k9 => gate false (bnot b8)
 (oK (exNil v_0 h5) fun v12 h13 =>
 fAddr 0 v12 fun v14 =>
 ld1 v14 h13 fun v15 =>
 fAddr 0 (.ptr p2 0) fun v16 =>
 ldn 8 v16 h13 fun v17 =>
 c (.func 136) [v15, (.int .i64 (Int.ofNat 1)), v17] h13 fun v18 h19 =>
 asB v18 fun b20 =>
 k9 b20 h19)
 (k9 true h5)) fun b11 h10 =>
 cnd b11
 (oK (exNil v_0 h10) fun v21 h22 =>
 fAddr 3 v21 fun v23 =>
 ld1 v23 h22 fun v24 =>
 ldn 9 (.ptr p2 0) h22 fun v25 =>
 oK (withElem env 128 (fun e ei => exBuildSlice 1 [(0, v25)] h22 e ei)) fun v26 h27 =>
 ld1 v23 h27 fun v28 =>
 eqC v28 v24 <|
 oK (builtinA env .append [128, 128] [v24, v26] h27) fun v29 h30 =>
 oK (exNil v_0 h30) fun v31 h32 =>
 fAddr 3 v31 fun v33 =>
 st1 v33 v29 h32 fun h34 =>
 k (.tuple []) h34)
 (k (.tuple []) h10)
noncomputable def z101 : J101 := ⟨fun _ _ _ => False⟩
noncomputable def r101 (c : Caller Prop FT) (k : KV) (m : Nat) : J101 := Nat.rec z101 (fun _ J => ⟨s101_0 c k J⟩) m
noncomputable def f101 (J : J101) : Jump := fun L f h => match L with
  | 0 => J.a0 (f 0) (f 1) h
  | _ => False
noncomputable def u101 : Cuts := [(.root, 0)]
noncomputable def d102 : Code := Option.rec .skip (fun c => c) Go.Proofs.Tryz.f102.body
noncomputable def q102 : Plans := [(4, [0, 1, 2, 3, 4, 5, 6, 7, 12, 8, 9, 10, 11, 13, 14, 15])]
structure J102 where
  a0 : AV → AV → H → Prop
  a1 : AV → AV → H → Prop
noncomputable def s102_0 (c : Caller Prop FT) (k : KV) (J : J102) (v_0 : AV) (v_1 : AV) (h : H) : Prop :=
 asG v_1 fun g1 =>
 chk (Nat.ble 1 (len g1)) <|
 Hp.newK h (rowOf 45 g1) fun p2 h3 =>
 Hp.newK h3 ob45 fun p4 h5 =>
 fAddr 1 (.ptr p2 0) fun v6 =>
 ld1 v6 h5 fun v7 =>
 asS v7 fun l8 c9 =>
 cnd (strEq l8 c9 8 6872287758930173791)
 (oK (exNil v_0 h5) fun v10 h11 =>
 fAddr 0 v10 fun v12 =>
 ld1 v12 h11 fun v13 =>
 oK (exNil v13 h11) fun v14 h15 =>
 fAddr 1 v14 fun v16 =>
 ldn 3 v16 h15 fun v17 =>
 ldn 8 (.ptr p2 0) h15 fun v18 =>
 fAddr 0 (.ptr p2 0) fun v19 =>
 c (.func 27) [v18] h15 fun v20 h21 =>
 ld1 v12 h21 fun v22 =>
 eqC v22 v13 <|
 ldn 3 v16 h21 fun v23 =>
 eqC v23 v17 <|
 fld1 1 v20 fun v24 =>
 asI .i64 v24 fun n25 =>
 c (.func 138) [v17, (.int .i64 n25)] h21 fun v26 h27 =>
 asI .i64 v26 fun n28 =>
 c (.func 137) [(.int .i64 n28)] h27 fun v29 h30 =>
 asS v29 fun l31 c32 =>
 st1 v19 (.int .i64 (Int.ofNat 2)) h30 fun h33 =>
 fAddr 1 (.ptr p2 0) fun v34 =>
 st1 v34 (.str l31 c32) h33 fun h35 =>
 J.a1 (.ptr p2 0) (.ptr p4 0) h35)
 (cnd (strEq l8 c9 8 6872287750339845983)
 (oK (exNil v_0 h5) fun v36 h37 =>
 fAddr 0 v36 fun v38 =>
 ld1 v38 h37 fun v39 =>
 oK (exNil v39 h37) fun v40 h41 =>
 fAddr 1 v40 fun v42 =>
 fAddr 0 v42 fun v43 =>
 ld1 v43 h41 fun v44 =>
 asS v44 fun l45 c46 =>
 c (.func 139) [(.str l45 c46)] h41 fun v47 h48 =>
 asS v47 fun l49 c50 =>
 fAddr 0 (.ptr p2 0) fun v51 =>
 st1 v51 (.int .i64 (Int.ofNat 4)) h48 fun h52 =>
 fAddr 1 (.ptr p2 0) fun v53 =>
 st1 v53 (.str l49 c50) h52 fun h54 =>
 J.a1 (.ptr p2 0) (.ptr p4 0) h54)
 (ldn 8 (.ptr p2 0) h5 fun v55 =>
 stn 8 (.ptr p4 0) v55 h5 fun h56 =>
 ldn 8 (.ptr p4 0) h56 fun v57 =>
 k (.tuple [v57, (.bool false)]) h56))
noncomputable def s102_1 (_c : Caller Prop FT) (k : KV) (_J : J102) (v_3 : AV) (v_4 : AV) (h : H) : Prop :=
 fAddr 6 v_3 fun v58 =>
 st1 v58 (.bool true) h fun h59 =>
 ldn 8 v_3 h59 fun v60 =>
 stn 8 v_4 v60 h59 fun h61 =>
 ldn 8 v_4 h61 fun v62 =>
 k (.tuple [v62, (.bool true)]) h61
noncomputable def z102 : J102 := ⟨fun _ _ _ => False, fun _ _ _ => False⟩
noncomputable def r102 (c : Caller Prop FT) (k : KV) (m : Nat) : J102 := Nat.rec z102 (fun _ J => ⟨s102_0 c k J, s102_1 c k J⟩) m
noncomputable def f102 (J : J102) : Jump := fun L f h => match L with
  | 0 => J.a0 (f 0) (f 1) h
  | 1 => J.a1 (f 3) (f 4) h
  | _ => False
noncomputable def u102 : Cuts := [(.root, 0), ((.r (.r .root)), 1)]
noncomputable def d103 : Code := Option.rec .skip (fun c => c) Go.Proofs.Tryz.f103.body
noncomputable def q103 : Plans := []
structure J103 where
  a0 : AV → Nat → Nat → H → Prop
noncomputable def s103_0 (_c : Caller Prop FT) (k : KV) (_J : J103) (v_0 : AV) (l_1 : Nat) (c_1 : Nat) (h : H) : Prop :=
 oV (binA env .eql 103 v_0 .nilp) fun v1 =>
 asB v1 fun b2 =>
 cnd b2
 (k .nilp h)
 (oK (exNil v_0 h) fun v3 h4 =>
 fAddr 0 v3 fun v5 =>
 ld1 v5 h4 fun v6 =>
 oK (exLookup env 151 v6 (.str l_1 c_1) false h4) fun v7 h8 =>
 k v7 h8)
noncomputable def z103 : J103 := ⟨fun _ _ _ _ => False⟩
noncomputable def r103 (c : Caller Prop FT) (k : KV) (m : Nat) : J103 := Nat.rec z103 (fun _ J => ⟨s103_0 c k J⟩) m
noncomputable def f103 (J : J103) : Jump := fun L f h => match L with
  | 0 => asS (f 1) fun l_1 c_1 => J.a0 (f 0) l_1 c_1 h
  | _ => False
noncomputable def u103 : Cuts := [(.root, 0)]
noncomputable def d104 : Code := Option.rec .skip (fun c => c) Go.Proofs.Tryz.f104.body
noncomputable def q104 : Plans := []
structure J104 where
  a0 : AV → Nat → Nat → H → Prop
noncomputable def s104_0 (_c : Caller Prop FT) (k : KV) (_J : J104) (v_0 : AV) (l_1 : Nat) (c_1 : Nat) (h : H) : Prop :=
 asG v_0 fun g1 =>
 chk (Nat.ble 1 (len g1)) <|
 Hp.newK h (rowOf 45 g1) fun p2 h3 =>
 fAddr 0 (.ptr p2 0) fun v4 =>
 ld1 v4 h3 fun v5 =>
 asI .i64 v5 fun n6 =>
 joinB (fun k7 => gate true (ibeq n6 (Int.ofNat 5))
 (fAddr 1 (.ptr p2 0) fun v10 =>
 ld1 v10 h3 fun v11 =>
 asS v11 fun l12 c13 =>
 k7 (strEq l12 c13 l_1 c_1) h3)
 (k7 false h3)) fun b9 h8 =>
 k (.bool b9) h8
noncomputable def z104 : J104 := ⟨fun _ _ _ _ => False⟩
noncomputable def r104 (c : Caller Prop FT) (k : KV) (m : Nat) : J104 := Nat.rec z104 (fun _ J => ⟨s104_0 c k J⟩) m
noncomputable def f104 (J : J104) : Jump := fun L f h => match L with
  | 0 => asS (f 1) fun l_1 c_1 => J.a0 (f 0) l_1 c_1 h
  | _ => False
noncomputable def u104 : Cuts := [(.root, 0)]
noncomputable def d105 : Code := Option.rec .skip (fun c => c) Go.Proofs.Tryz.f105.body
noncomputable def q105 : Plans := [(3, [0, 1, 2, 3, 4, 5, 6, 7]), (11, [0, 1, 2, 3, 4, 5, 6, 7, 8, 9, 10, 11, 12, 13, 14, 15]), (12, [0, 1, 2, 3, 4, 5, 6, 7, 8, 9, 10, 11, 12, 13, 14, 15, 16, 17, 18, 19]), (14, [0, 1, 2, 3, 4, 5, 6, 7]), (30, [0, 1, 2, 3, 4, 5, 6, 7, 9, 10, 11, 12, 13, 8, 14, 15]), (31, [0, 1, 2, 3, 4, 5, 6, 7, 9, 8, 10])]
structure J105 where
  a0 : AV → AV → AV → H → Prop
  a1 : AV → AV → AV → AV → Int → AV → Int → Int → H → Prop
  a2 : AV → AV → Int → Int → H → Prop
  a3 : AV → AV → AV → AV → Int → AV → Int → AV → AV → Int → Int → H → Prop
  a4 : AV → AV → AV → Int → AV → AV → H → Prop
  a5 : AV → AV → AV → AV → Int → AV → Int → AV → H → Prop
  a6 : AV → AV → Int → Int → H → Prop
  a7 : AV → AV → AV → AV → Int → AV → Int → AV → AV → Int → Int → H → Prop
noncomputable def s105_0 (c : Caller Prop FT) (k : KV) (J : J105) (v_0 : AV) (v_1 : AV) (v_2 : AV) (h : H) : Prop :=
 one v_0 <|
 Hp.newK h (rowOf 124 [v_0]) fun p1 h2 =>
 asG v_2 fun g3 =>
 chk (Nat.ble 1 (len g3)) <|
 Hp.newK h2 (rowOf 136 g3) fun p4 h5 =>
 ld1 (.ptr p1 0) h5 fun v6 =>
 oK (exNil v6 h5) fun v7 h8 =>
 fAddr 2 v7 fun v9 =>
 ld1 v9 h8 fun v10 =>
 lenV v10 fun m11 =>
 c (.func 140) [(.int .i64 (Int.ofNat m11)), (.func (.func 141) [] [(.ptr p1 0)])] h8 fun v12 h13 =>
 ext 0 v12 fun v14 =>
 ext 1 v12 fun v15 =>
 asI .i64 v15 fun n16 =>
 cnd (ibeq n16 (Int.ofNat 0))
 (ld1 (.ptr p1 0) h13 fun v17 =>
 oK (exNil v17 h13) fun v18 h19 =>
 fAddr 0 v18 fun v20 =>
 ld1 v20 h19 fun v21 =>
 fAddr 0 (.ptr p4 0) fun v22 =>
 fAddr 3 v22 fun v23 =>
 ldn 3 v23 h19 fun v24 =>
 c (.func 142) [v21, (.int .i64 (Int.ofNat 8)), v24] h19 fun _ h26 =>
 ld1 (.ptr p1 0) h26 fun v27 =>
 ldn 9 (.ptr p4 0) h26 fun v28 =>
 c (.func 101) [v27, v28] h26 fun _ h30 =>
 k (.tuple []) h30)
 (oK (withElem env 128 (fun e ei => exMakeSlice (natOf (.int .i64 n16)) (natOf (.int .i64 n16)) h13 e ei)) fun v31 h32 =>
 lenV v31 fun m33 =>
 J.a1 v_1 (.ptr p1 0) (.ptr p4 0) v14 n16 v31 (Int.ofNat m33) (Int.ofNat 0) h32)
noncomputable def s105_1 (c : Caller Prop FT) (_k : KV) (J : J105) (v_1 : AV) (v_3 : AV) (v_5 : AV) (v_6 : AV) (n_7 : Int) (v_8 : AV) (n_44 : Int) (n_45 : Int) (h : H) : Prop :=
 cnd (iblt n_45 n_44)
 (ld1 v_3 h fun v34 =>
 c (.func 77) [v34, (.int .i64 n_45)] h fun v35 h36 =>
 natI n_45 fun m37 =>
 elemA 9 m37 v_8 fun v38 =>
 stn 9 v38 v35 h36 fun h39 =>
 fI (wrap .i64 (iadd n_45 (Int.ofNat 1))) fun n40 =>
 J.a1 v_1 v_3 v_5 v_6 n_7 v_8 n_44 n40 h39)
 (ld1 v_3 h fun v41 =>
 ld1 v_3 h fun v42 =>
 oK (exNil v42 h) fun v43 h44 =>
 fAddr 2 v43 fun v45 =>
 ld1 v45 h44 fun v46 =>
 ld1 v_3 h44 fun v47 =>
 oK (exNil v47 h44) fun v48 h49 =>
 fAddr 2 v48 fun v50 =>
 ld1 v50 h49 fun v51 =>
 lenV v51 fun m52 =>
 fI (wrap .i64 (isub (Int.ofNat m52) n_7)) fun n53 =>
 oK (slice3 env h49 128 v46 none (some (natOf (.int .i64 n53))) none) fun v54 h55 =>
 oK (exNil v41 h55) fun v56 h57 =>
 fAddr 2 v56 fun v58 =>
 st1 v58 v54 h57 fun h59 =>
 oK (exNil v_1 h59) fun v60 h61 =>
 ldn 8 v60 h61 fun v62 =>
 lenV v_6 fun m63 =>
 elemA 2 0 v_6 fun v64 =>
 fAddr 0 v64 fun v65 =>
 ld1 v65 h61 fun v66 =>
 asI .i64 v66 fun n67 =>
 elemA 2 0 v_6 fun v68 =>
 fAddr 1 v68 fun v69 =>
 ld1 v69 h61 fun v70 =>
 asI .i64 v70 fun n71 =>
 c (.func 143) [v62, (.int .i64 (Int.ofNat m63)), (.bool (ibeq n67 n71))] h61 fun v72 h73 =>
 ext 0 v72 fun v74 =>
 asI .i64 v74 fun n75 =>
 ext 1 v72 fun v76 =>
 asB v76 fun b77 =>
 cnd (bnot b77)
 (ld1 v_3 h73 fun v78 =>
 oK (exNil v78 h73) fun v79 h80 =>
 fAddr 0 v79 fun v81 =>
 ld1 v81 h80 fun v82 =>
 fAddr 0 v_5 fun v83 =>
 fAddr 3 v83 fun v84 =>
 ldn 3 v84 h80 fun v85 =>
 c (.func 142) [v82, (.int .i64 (Int.ofNat 9)), v85] h80 fun _ h87 =>
 ldn 9 v_5 h87 fun v88 =>
 oK (withElem env 128 (fun e ei => exBuildSlice 1 [(0, v88)] h87 e ei)) fun v89 h90 =>
 c (.func 144) [v_8, (.int .i64 (Int.ofNat 0)), v89] h90 fun v91 h92 =>
 lenV v91 fun m93 =>
 J.a6 v_3 v91 (Int.ofNat m93) (Int.ofNat 0) h92)
 (oK (exNil v_1 h73) fun v94 h95 =>
 fAddr 3 v94 fun v96 =>
 ld1 v96 h95 fun v97 =>
 lenV v97 fun m98 =>
 cnd (iblt (Int.ofNat 0) (Int.ofNat m98))
 (oK (slice3 env h95 267 v_6 none (some (natOf (.int .i64 n75))) none) fun v99 h100 =>
 lenV v99 fun m101 =>
 J.a7 v_1 v_3 v_5 v_6 n_7 v_8 n75 .nils v99 (Int.ofNat m101) (Int.ofNat 0) h100)
 (J.a5 v_1 v_3 v_5 v_6 n_7 v_8 n75 .nils h95)))
noncomputable def s105_2 (c : Caller Prop FT) (k : KV) (J : J105) (v_3 : AV) (v_101 : AV) (n_102 : Int) (n_103 : Int) (h : H) : Prop :=
 cnd (iblt n_103 n_102)
 (natI n_103 fun m102 =>
 elemA 9 m102 v_101 fun v103 =>
 ldn 9 v103 h fun v104 =>
 Hp.newK h ob136 fun p105 h106 =>
 stn 9 (.ptr p105 0) v104 h106 fun h107 =>
 ld1 v_3 h107 fun v108 =>
 oK (exNil v108 h107) fun v109 h110 =>
 fAddr 0 v109 fun v111 =>
 ld1 v111 h110 fun v112 =>
 oK (exNil v112 h110) fun v113 h114 =>
 fAddr 7 v113 fun v115 =>
 ld1 v115 h114 fun v116 =>
 asB v116 fun b117 =>
 cnd (bnot b117)
 (ld1 v_3 h114 fun v118 =>
 ldn 9 (.ptr p105 0) h114 fun v119 =>
 c (.func 101) [v118, v119] h114 fun _ h121 =>
 fI (wrap .i64 (iadd n_103 (Int.ofNat 1))) fun n122 =>
 J.a2 v_3 v_101 n_102 n122 h121)
 (fI (wrap .i64 (iadd n_103 (Int.ofNat 1))) fun n123 =>
 J.a2 v_3 v_101 n_102 n123 h114))
 (k (.tuple []) h)
noncomputable def s105_3 (_c : Caller Prop FT) (_k : KV) (J : J105) (v_1 : AV) (v_3 : AV) (v_5 : AV) (v_6 : AV) (n_7 : Int) (v_8 : AV) (n_10 : Int) (v_14 : AV) (v_127 : AV) (n_128 : Int) (n_129 : Int) (h : H) : Prop :=
 cnd (iblt n_129 n_128)
 (natI n_129 fun m124 =>
 elemA 2 m124 v_127 fun v125 =>
 ldn 2 v125 h fun v126 =>
 Hp.newK h ob273 fun p127 h128 =>
 stn 2 (.ptr p127 0) v126 h128 fun h129 =>
 fAddr 0 (.ptr p127 0) fun v130 =>
 ld1 v130 h129 fun v131 =>
 asI .i64 v131 fun n132 =>
 fAddr 1 (.ptr p127 0) fun v133 =>
 ld1 v133 h129 fun v134 =>
 asI .i64 v134 fun n135 =>
 oK (slice3 env h129 128 v_8 (some (natOf (.int .i64 n132))) (some (natOf (.int .i64 n135))) none) fun v136 h137 =>
 oK (withElem env 275 (fun e ei => exBuildSlice 1 [(0, v136)] h137 e ei)) fun v138 h139 =>
 oK (builtinA env .append [275, 275] [v_14, v138] h139) fun v140 h141 =>
 fI (wrap .i64 (iadd n_129 (Int.ofNat 1))) fun n142 =>
 J.a3 v_1 v_3 v_5 v_6 n_7 v_8 n_10 v140 v_127 n_128 n142 h141)
 (J.a5 v_1 v_3 v_5 v_6 n_7 v_8 n_10 v_14 h)
noncomputable def s105_4 (c : Caller Prop FT) (k : KV) (_J : J105) (v_1 : AV) (v_3 : AV) (v_5 : AV) (n_7 : Int) (v_8 : AV) (v_14 : AV) (h : H) : Prop :=
 fAddr 8 v_5 fun v143 =>
 ld1 v143 h fun v144 =>
 fI (wrap .i64 (isub n_7 (Int.ofNat 1))) fun n145 =>
 natI n145 fun m146 =>
 elemA 9 m146 v_8 fun v147 =>
 fAddr 8 v147 fun v148 =>
 ld1 v148 h fun v149 =>
 oK (exNil v_1 h) fun v150 h151 =>
 fAddr 0 v150 fun v152 =>
 ld1 v152 h151 fun v153 =>
 asS v153 fun l154 c155 =>
 oK (withElem env 34 (fun e ei => exBuildSlice 1 [(0, (.str l154 c155))] h151 e ei)) fun v156 h157 =>
 ld1 v143 h157 fun v158 =>
 eqC v158 v144 <|
 ld1 v148 h157 fun v159 =>
 eqC v159 v149 <|
 ld1 v152 h157 fun v160 =>
 asS v160 fun l161 c162 =>
 eqC (.str l161 c162) (.str l154 c155) <|
 c (.func 146) [v144, v149] h157 fun v163 h164 =>
 ld1 v152 h164 fun v165 =>
 asS v165 fun l166 c167 =>
 eqC (.str l166 c167) (.str l154 c155) <|
 c (.func 107) [v163, v156] h164 fun v168 h169 =>
 ld1 v_3 h169 fun v170 =>
 ldn 9 v_5 h169 fun v171 =>
 ld1 v_3 h169 fun v172 =>
 ldn 9 v_5 h169 fun v173 =>
 c (.func 147) [v172, v_1, v173, v_14] h169 fun v174 h175 =>
 ld1 v_3 h175 fun v176 =>
 eqC v176 v170 <|
 ldn 9 v_5 h175 fun v177 =>
 eqC v177 v171 <|
 c (.func 106) [v170, v_1, v171, v_14, v174, v168] h175 fun _ h179 =>
 k (.tuple []) h179
noncomputable def s105_5 (c : Caller Prop FT) (_k : KV) (J : J105) (v_1 : AV) (v_3 : AV) (v_5 : AV) (v_6 : AV) (n_7 : Int) (v_8 : AV) (n_10 : Int) (v_14 : AV) (h : H) : Prop :=
 oK (exNil v_1 h) fun v180 h181 =>
 fAddr 2 v180 fun v182 =>
 ld1 v182 h181 fun v183 =>
 asB v183 fun b184 =>
 joinB (fun k185 => gate true b184
 (oK (exNil v_1 h181) fun v188 h189 =>
 fAddr 3 v188 fun v190 =>
 ld1 v190 h189 fun v191 =>
 lenV v191 fun m192 =>
 k185 (iblt (Int.ofNat 0) (Int.ofNat m192)) h189)
 (k185 false h181)) fun b187 h186 =>
 cnd b187
 (oK (slice3 env h186 267 v_6 (some (natOf (.int .i64 n_10))) none none) fun v193 h194 =>
 c (.func 145) [v_8, v193] h194 fun v195 h196 =>
 oK (withElem env 275 (fun e ei => exBuildSlice 1 [(0, v195)] h196 e ei)) fun v197 h198 =>
 oK (builtinA env .append [275, 275] [v_14, v197] h198) fun v199 h200 =>
 J.a4 v_1 v_3 v_5 n_7 v_8 v199 h200)
 (J.a4 v_1 v_3 v_5 n_7 v_8 v_14 h186)
noncomputable def s105_6 (_c : Caller Prop FT) (_k : KV) (J : J105) (v_3 : AV) (v_101 : AV) (n_102 : Int) (n_103 : Int) (h : H) : Prop :=
 J.a2 v_3 v_101 n_102 n_103 h
noncomputable def s105_7 (_c : Caller Prop FT) (_k : KV) (J : J105) (v_1 : AV) (v_3 : AV) (v_5 : AV) (v_6 : AV) (n_7 : Int) (v_8 : AV) (n_10 : Int) (v_14 : AV) (v_127 : AV) (n_128 : Int) (n_129 : Int) (h : H) : Prop :=
 J.a3 v_1 v_3 v_5 v_6 n_7 v_8 n_10 v_14 v_127 n_128 n_129 h
noncomputable def z105 : J105 := ⟨fun _ _ _ _ => False, fun _ _ _ _ _ _ _ _ _ => False, fun _ _ _ _ _ => False, fun _ _ _ _ _ _ _ _ _ _ _ _ => False, fun _ _ _ _ _ _ _ => False, fun _ _ _ _ _ _ _ _ _ => False, fun _ _ _ _ _ => False, fun _ _ _ _ _ _ _ _ _ _ _ _ => False⟩
noncomputable def r105 (c : Caller Prop FT) (k : KV) (m : Nat) : J105 := Nat.rec z105 (fun _ J => ⟨s105_0 c k J, s105_1 c k J, s105_2 c k J, s105_3 c k J, s105_4 c k J, s105_5 c k J, s105_6 c k J, s105_7 c k J⟩) m
noncomputable def f105 (J : J105) : Jump := fun L f h => match L with
  | 0 => J.a0 (f 0) (f 1) (f 2) h
  | 1 => asI .i64 (f 7) fun n_7 => asI .i64 (f 44) fun n_44 => asI .i64 (f 45) fun n_45 => J.a1 (f 1) (f 3) (f 5) (f 6) n_7 (f 8) n_44 n_45 h
  | 2 => asI .i64 (f 102) fun n_102 => asI .i64 (f 103) fun n_103 => J.a2 (f 3) (f 101) n_102 n_103 h
  | 3 => asI .i64 (f 7) fun n_7 => asI .i64 (f 10) fun n_10 => asI .i64 (f 128) fun n_128 => asI .i64 (f 129) fun n_129 => J.a3 (f 1) (f 3) (f 5) (f 6) n_7 (f 8) n_10 (f 14) (f 127) n_128 n_129 h
  | 4 => asI .i64 (f 7) fun n_7 => J.a4 (f 1) (f 3) (f 5) n_7 (f 8) (f 14) h
  | 5 => asI .i64 (f 7) fun n_7 => asI .i64 (f 10) fun n_10 => J.a5 (f 1) (f 3) (f 5) (f 6) n_7 (f 8) n_10 (f 14) h
  | 6 => asI .i64 (f 102) fun n_102 => asI .i64 (f 103) fun n_103 => J.a6 (f 3) (f 101) n_102 n_103 h
  | 7 => asI .i64 (f 7) fun n_7 => asI .i64 (f 10) fun n_10 => asI .i64 (f 128) fun n_128 => asI .i64 (f 129) fun n_129 => J.a7 (f 1) (f 3) (f 5) (f 6) n_7 (f 8) n_10 (f 14) (f 127) n_128 n_129 h
  | _ => False
noncomputable def u105 : Cuts := [(.root, 0), ((.l (.r (.l (.r (.r (.r (.r .root))))))), 1), ((.l (.r (.l (.r (.l (.r (.l (.r (.r (.r (.r (.r (.r (.r .root)))))))))))))), 2), ((.l (.r (.l (.r (.l (.r (.r (.r (.r (.r (.r (.r (.r (.r .root)))))))))))))), 3), ((.r (.r (.r (.r (.r (.r (.r (.r (.r (.r (.r .root))))))))))), 4), ((.r (.r (.r (.r (.r (.r (.r (.r (.r (.r .root)))))))))), 5), ((.r (.l (.r (.l (.r (.l (.r (.r (.r (.r (.r (.r (.r .root))))))))))))), 6), ((.r (.l (.r (.l (.r (.r (.r (.r (.r (.r (.r (.r (.r .root))))))))))))), 7)]
noncomputable def d106 : Code := Option.rec .skip (fun c => c) Go.Proofs.Tryz.f106.body
noncomputable def q106 : Plans := [(1, [0, 1, 2, 3, 4, 5, 6, 7, 8, 9, 10, 11, 12, 13, 14, 15, 16, 17, 18, 19, 20, 21, 22, 23]), (2, [0, 1, 2, 3, 4, 5, 8, 9, 6, 7, 10, 11]), (3, [0, 1, 3, 5, 6, 7, 8, 9, 10, 11, 12, 13, 14, 15, 16, 17, 18, 2, 4, 19, 20, 21, 22, 23, 24]), (4, [0, 1, 2, 3, 4, 5, 6, 7, 8, 9, 10, 11, 12, 13, 14, 15]), (5, [0, 1, 2, 3, 4, 5, 6, 7, 8, 9]), (12, [0, 1, 2, 3, 4, 5, 6, 7, 8, 9, 10, 11, 12, 13]), (14, [0, 1, 2, 3, 4, 5, 6, 7, 8, 9, 10, 11, 12, 13]), (15, [0, 1, 2, 3, 4, 5, 6, 7, 8, 9, 10]), (4294967294, [6, 9, 10, 11]), (4294967295, [167])]
noncomputable def lp106_0 : LpS := lpOf q106 (codeAt d106 (.l (.r (.r (.r (.r (.r (.r (.r (.r .root))))))))))
structure J106 where
  a0 : AV → AV → AV → AV → AV → AV → H → Prop
  a1 : AV → AV → AV → AV → AV → AV → AV → H → Prop
noncomputable def s106_0 (c : Caller Prop FT) (k : KV) (J : J106) (v_0 : AV) (v_1 : AV) (v_2 : AV) (v_3 : AV) (v_4 : AV) (v_5 : AV) (h : H) : Prop :=
 one v_0 <|
 Hp.newK h (rowOf 124 [v_0]) fun p1 h2 =>
 asG v_2 fun g3 =>
 chk (Nat.ble 1 (len g3)) <|
 Hp.newK h2 (rowOf 136 g3) fun p4 h5 =>
 one v_3 <|
 Hp.newK h5 (rowOf 275 [v_3]) fun p6 h7 =>
 one v_4 <|
 Hp.newK h7 (rowOf 275 [v_4]) fun p8 h9 =>
 one v_5 <|
 Hp.newK h9 (rowOf 34 [v_5]) fun p10 h11 =>
 ld1 (.ptr p1 0) h11 fun v12 =>
 oK (exNil v12 h11) fun v13 h14 =>
 fAddr 0 v13 fun v15 =>
 ld1 v15 h14 fun v16 =>
 oK (exNil v16 h14) fun v17 h18 =>
 fAddr 7 v17 fun v19 =>
 ld1 v19 h18 fun v20 =>
 asB v20 fun b21 =>
 joinB (fun k22 => gate false b21
 (oK (exNil v_1 h18) fun v25 h26 =>
 fAddr 1 v25 fun v27 =>
 ld1 v27 h26 fun v28 =>
 asB v28 fun b29 =>
 joinB (fun k30 => gate true (bnot b29)
 (ld1 (.ptr p1 0) h26 fun v33 =>
 oK (exNil v33 h26) fun v34 h35 =>
 fAddr 0 v34 fun v36 =>
 ld1 v36 h35 fun v37 =>
 fAddr 0 (.ptr p4 0) fun v38 =>
 ldn 8 v38 h35 fun v39 =>
 c (.func 136) [v37, (.int .i64 (Int.ofNat 1)), v39] h35 fun v40 h41 =>
 asB v40 fun b42 =>
 k30 (bnot b42) h41)
 (k30 false h26)) fun b32 h31 =>
 k22 b32 h31)
 (k22 true h18)) fun b24 h23 =>
 cnd b24
 (k (.tuple []) h23)
 (ld1 (.ptr p1 0) h23 fun v43 =>
 oK (exNil v43 h23) fun v44 h45 =>
 fAddr 0 v44 fun v46 =>
 ld1 v46 h45 fun v47 =>
 ld1 (.ptr p6 0) h45 fun v48 =>
 fAddr 0 (.ptr p4 0) fun v49 =>
 ldn 8 v49 h45 fun v50 =>
 c (.func 149) [v48] h45 fun v51 h52 =>
 ld1 (.ptr p1 0) h52 fun v53 =>
 eqC v53 v43 <|
 ld1 v46 h52 fun v54 =>
 eqC v54 v47 <|
 ldn 8 v49 h52 fun v55 =>
 eqC v55 v50 <|
 c (.func 148) [v_1, v51] h52 fun v56 h57 =>
 asI .i64 v56 fun n58 =>
 ld1 (.ptr p1 0) h57 fun v59 =>
 eqC v59 v43 <|
 ld1 v46 h57 fun v60 =>
 eqC v60 v47 <|
 ldn 8 v49 h57 fun v61 =>
 eqC v61 v50 <|
 c (.func 136) [v47, (.int .i64 n58), v50] h57 fun v62 h63 =>
 asB v62 fun b64 =>
 cnd (bnot b64)
 (k (.tuple []) h63)
 (ld1 (.ptr p6 0) h63 fun v65 =>
 ld1 (.ptr p8 0) h63 fun v66 =>
 oK (exNil v_1 h63) fun v67 h68 =>
 fAddr 0 v67 fun v69 =>
 ld1 v69 h68 fun v70 =>
 asS v70 fun l71 c72 =>
 fAddr 0 (.ptr p4 0) fun v73 =>
 fAddr 3 v73 fun v74 =>
 ldn 3 v74 h68 fun v75 =>
 fAddr 0 (.ptr p4 0) fun v76 =>
 fAddr 6 v76 fun v77 =>
 ld1 v77 h68 fun v78 =>
 asB v78 fun b79 =>
 oK (exBuild env (env.ty 47) [(0, (.str l71 c72)), (1, v75), (2, (.bool b79))] h68) fun v80 h81 =>
 fAddr 0 (.ptr p4 0) fun v82 =>
 fAddr 7 v82 fun v83 =>
 ld1 v83 h81 fun v84 =>
 c (.func 149) [v65] h81 fun v85 h86 =>
 ld1 (.ptr p8 0) h86 fun v87 =>
 eqC v87 v66 <|
 ld1 v69 h86 fun v88 =>
 asS v88 fun l89 c90 =>
 eqC (.str l89 c90) (.str l71 c72) <|
 ldn 3 v74 h86 fun v91 =>
 eqC v91 v75 <|
 ld1 v77 h86 fun v92 =>
 asB v92 fun b93 =>
 eqC (.bool b93) (.bool b79) <|
 ld1 v83 h86 fun v94 =>
 eqC v94 v84 <|
 c (.func 149) [v66] h86 fun v95 h96 =>
 ld1 v69 h96 fun v97 =>
 asS v97 fun l98 c99 =>
 eqC (.str l98 c99) (.str l71 c72) <|
 ldn 3 v74 h96 fun v100 =>
 eqC v100 v75 <|
 ld1 v77 h96 fun v101 =>
 asB v101 fun b102 =>
 eqC (.bool b102) (.bool b79) <|
 ld1 v83 h96 fun v103 =>
 eqC v103 v84 <|
 c (.func 150) [v_1, v85, v95, v80, v84] h96 fun v104 h105 =>
 ext 0 v104 fun v106 =>
 ext 1 v104 fun v107 =>
 J.a1 (.ptr p1 0) (.ptr p4 0) (.ptr p6 0) (.ptr p8 0) (.ptr p10 0) v106 v107 h105))
noncomputable def s106_1 (c : Caller Prop FT) (k : KV) (_J : J106) (v_6 : AV) (v_8 : AV) (v_9 : AV) (v_10 : AV) (v_11 : AV) (v_12 : AV) (v_13 : AV) (h : H) : Prop :=
 ld1 v_6 h fun v108 =>
 oK (exNil v108 h) fun v109 h110 =>
 fAddr 0 v109 fun v111 =>
 ld1 v111 h110 fun v112 =>
 ld1 v_6 h110 fun v113 =>
 oK (exNil v113 h110) fun v114 h115 =>
 fAddr 0 v114 fun v116 =>
 ld1 v116 h115 fun v117 =>
 oK (exNil v117 h115) fun v118 h119 =>
 fAddr 6 v118 fun v120 =>
 ld1 v120 h119 fun v121 =>
 oK (builtinA env .append [33, 33] [v121, v_13] h119) fun v122 h123 =>
 ld1 v_6 h123 fun v124 =>
 eqC v124 v108 <|
 ld1 v111 h123 fun v125 =>
 eqC v125 v112 <|
 oK (exNil v112 h123) fun v126 h127 =>
 fAddr 6 v126 fun v128 =>
 st1 v128 v122 h127 fun h129 =>
 ld1 v_6 h129 fun v130 =>
 oK (exNil v130 h129) fun v131 h132 =>
 fAddr 0 v131 fun v133 =>
 ld1 v133 h132 fun v134 =>
 lenV v_12 fun m135 =>
 fAddr 0 v_8 fun v136 =>
 ldn 8 v136 h132 fun v137 =>
 c (.func 136) [v134, (.int .i64 (Int.ofNat m135)), v137] h132 fun v138 h139 =>
 asB v138 fun b140 =>
 cnd (bnot b140)
 (k (.tuple []) h139)
 (lenV v_12 fun m141 =>
 cnd (iblt (Int.ofNat 0) (Int.ofNat m141))
 (fAddr 0 v_8 fun v142 =>
 fAddr 2 v142 fun v143 =>
 ld1 v143 h139 fun v144 =>
 asB v144 fun b145 =>
 elemA 11 0 v_12 fun v146 =>
 fAddr 0 v146 fun v147 =>
 fAddr 2 v147 fun v148 =>
 st1 v148 (.bool b145) h139 fun h149 =>
 c (.func 151) [v_12] h149 fun v150 h151 =>
 rangeA env c lp106_0 v150 (fset (fset (fset (fset (fun _ => .top) 11 v_11) 10 v_10) 9 v_9) 6 v_6) h151 fun x152 h153 =>
 cnd (axEq x152 .normal)
 (k (.tuple []) h153)
 (False))
 (c (.func 151) [v_12] h139 fun v154 h155 =>
 rangeA env c lp106_0 v154 (fset (fset (fset (fset (fun _ => .top) 11 v_11) 10 v_10) 9 v_9) 6 v_6) h155 fun x156 h157 =>
 cnd (axEq x156 .normal)
 (k (.tuple []) h157)
 (False)))
noncomputable def z106 : J106 := ⟨fun _ _ _ _ _ _ _ => False, fun _ _ _ _ _ _ _ _ => False⟩
noncomputable def r106 (c : Caller Prop FT) (k : KV) (m : Nat) : J106 := Nat.rec z106 (fun _ J => ⟨s106_0 c k J, s106_1 c k J⟩) m
noncomputable def f106 (J : J106) : Jump := fun L f h => match L with
  | 0 => J.a0 (f 0) (f 1) (f 2) (f 3) (f 4) (f 5) h
  | 1 => J.a1 (f 6) (f 8) (f 9) (f 10) (f 11) (f 12) (f 13) h
  | _ => False
noncomputable def u106 : Cuts := [(.root, 0), ((.r (.r (.r (.r .root)))), 1)]
noncomputable def d107 : Code := Option.rec .skip (fun c => c) Go.Proofs.Tryz.f107.body
noncomputable def q107 : Plans := []
structure J107 where
  a0 : AV → AV → H → Prop
noncomputable def s107_0 (c : Caller Prop FT) (k : KV) (_J : J107) (v_0 : AV) (v_1 : AV) (h : H) : Prop :=
 lenV v_0 fun m1 =>
 cnd (ibeq (Int.ofNat m1) (Int.ofNat 0))
 (k v_1 h)
 (oK (withElem env 326 (fun e ei => exBuildSlice 2 [(0, v_0), (1, v_1)] h e ei)) fun v2 h3 =>
 c (.func 152) [v2] h3 fun v4 h5 =>
 c (.func 72) [v4] h5 fun _ h7 =>
 c (.func 153) [v4] h7 fun v8 h9 =>
 k v8 h9)
noncomputable def z107 : J107 := ⟨fun _ _ _ => False⟩
noncomputable def r107 (c : Caller Prop FT) (k : KV) (m : Nat) : J107 := Nat.rec z107 (fun _ J => ⟨s107_0 c k J⟩) m
noncomputable def f107 (J : J107) : Jump := fun L f h => match L with
  | 0 => J.a0 (f 0) (f 1) h
  | _ => False
noncomputable def u107 : Cuts := [(.root, 0)]
noncomputable def d108 : Code := Option.rec .skip (fun c => c) Go.Proofs.Tryz.f108.body
noncomputable def q108 : Plans := []
structure J108 where
  a0 : Nat → Nat → Int → H → Prop
  a1 : Nat → Nat → Int → AV → H → Prop
noncomputable def s108_0 (c : Caller Prop FT) (k : KV) (J : J108) (l_0 : Nat) (c_0 : Nat) (n_1 : Int) (h : H) : Prop :=
 Hp.newK h ob180 fun p1 h2 =>
 natI n_1 fun m3 =>
 cutS l_0 c_0 m3 l_0 fun l4 c5 =>
 c (.func 154) [(.str l4 c5), (.str 2 16191)] h2 fun v6 h7 =>
 asB v6 fun b8 =>
 joinB (fun k9 => gate true b8
 (fI (wrap .i64 (iadd n_1 (Int.ofNat 2))) fun n12 =>
 k9 (iblt n12 (Int.ofNat l_0)) h7)
 (k9 false h7)) fun b11 h10 =>
 cnd b11
 (fI (wrap .i64 (iadd n_1 (Int.ofNat 2))) fun n13 =>
 natI n13 fun m14 =>
 idxS l_0 c_0 m14 fun m15 =>
 c (.func 155) [(.int .u8 (Int.ofNat m15))] h10 fun v16 h17 =>
 ext 0 v16 fun v18 =>
 asI .u8 v18 fun n19 =>
 ext 1 v16 fun v20 =>
 asB v20 fun b21 =>
 cnd b21
 (fI (wrap .i64 (iadd n_1 (Int.ofNat 3))) fun n22 =>
 oK (exBuild env (env.ty 180) [(0, (.int .u8 n19)), (1, (.int .i64 n_1)), (2, (.int .i64 n22))] h17) fun v23 h24 =>
 stn 3 (.ptr p1 0) v23 h24 fun h25 =>
 ldn 3 (.ptr p1 0) h25 fun v26 =>
 k v26 h25)
 (J.a1 l_0 c_0 n_1 (.ptr p1 0) h17))
 (J.a1 l_0 c_0 n_1 (.ptr p1 0) h10)
noncomputable def s108_1 (_c : Caller Prop FT) (k : KV) (_J : J108) (l_0 : Nat) (c_0 : Nat) (n_1 : Int) (v_4 : AV) (h : H) : Prop :=
 natI n_1 fun m27 =>
 idxS l_0 c_0 m27 fun m28 =>
 fI (wrap .i64 (iadd n_1 (Int.ofNat 1))) fun n29 =>
 oK (exBuild env (env.ty 180) [(0, (.int .u8 (Int.ofNat m28))), (1, (.int .i64 n_1)), (2, (.int .i64 n29))] h) fun v30 h31 =>
 stn 3 v_4 v30 h31 fun h32 =>
 ldn 3 v_4 h32 fun v33 =>
 k v33 h32
noncomputable def z108 : J108 := ⟨fun _ _ _ _ => False, fun _ _ _ _ _ => False⟩
noncomputable def r108 (c : Caller Prop FT) (k : KV) (m : Nat) : J108 := Nat.rec z108 (fun _ J => ⟨s108_0 c k J, s108_1 c k J⟩) m
noncomputable def f108 (J : J108) : Jump := fun L f h => match L with
  | 0 => asS (f 0) fun l_0 c_0 => asI .i64 (f 1) fun n_1 => J.a0 l_0 c_0 n_1 h
  | 1 => asS (f 0) fun l_0 c_0 => asI .i64 (f 1) fun n_1 => J.a1 l_0 c_0 n_1 (f 4) h
  | _ => False
noncomputable def u108 : Cuts := [(.root, 0), ((.r (.r .root)), 1)]
noncomputable def d109 : Code := Option.rec .skip (fun c => c) Go.Proofs.Tryz.f109.body
noncomputable def q109 : Plans := []
structure J109 where
  a0 : AV → H → Prop
noncomputable def s109_0 (c : Caller Prop FT) (k : KV) (_J : J109) (v_0 : AV) (h : H) : Prop :=
 oK (exNil v_0 h) fun v1 h2 =>
 fAddr 0 v1 fun v3 =>
 ld1 v3 h2 fun v4 =>
 oV (binA env .eql 196 v4 .nilp) fun v5 =>
 asB v5 fun b6 =>
 cnd b6
 (oK (convA env h2 196 290 v_0) fun v7 h8 =>
 c (.func 156) [v7] h8 fun v9 h10 =>
 oK (convA env h10 290 196 v9) fun v11 h12 =>
 oK (exNil v_0 h12) fun v13 h14 =>
 fAddr 0 v13 fun v15 =>
 st1 v15 v11 h14 fun h16 =>
 k (.tuple []) h16)
 (oK (exNil v_0 h2) fun v17 h18 =>
 fAddr 0 v17 fun v19 =>
 ld1 v19 h18 fun v20 =>
 oV (binA env .neq 196 v20 v_0) fun v21 =>
 asB v21 fun b22 =>
 cnd b22
 (False)
 (k (.tuple []) h18))
noncomputable def z109 : J109 := ⟨fun _ _ => False⟩
noncomputable def r109 (c : Caller Prop FT) (k : KV) (m : Nat) : J109 := Nat.rec z109 (fun _ J => ⟨s109_0 c k J⟩) m
noncomputable def f109 (J : J109) : Jump := fun L f h => match L with
  | 0 => J.a0 (f 0) h
  | _ => False
noncomputable def u109 : Cuts := [(.root, 0)]
noncomputable def d110 : Code := Option.rec .skip (fun c => c) Go.Proofs.Tryz.f110.body
noncomputable def q110 : Plans := []
structure J110 where
  a0 : AV → AV → AV → AV → H → Prop
  a1 : AV → AV → H → Prop
  a2 : AV → AV → AV → AV → H → Prop
noncomputable def s110_0 (_c : Caller Prop FT) (_k : KV) (J : J110) (v_0 : AV) (v_1 : AV) (v_2 : AV) (v_3 : AV) (h : H) : Prop :=
 ld1 v_1 h fun v1 =>
 asS v1 fun l2 _ =>
 cnd (ibeq (Int.ofNat l2) (Int.ofNat 0))
 (J.a1 v_0 v_2 h)
 (J.a2 v_0 v_1 v_2 v_3 h)
noncomputable def s110_1 (c : Caller Prop FT) (k : KV) (J : J110) (v_0 : AV) (v_2 : AV) (h : H) : Prop :=
 ld1 v_2 h fun v4 =>
 asS v4 fun l5 _ =>
 cnd (iblt (Int.ofNat 0) (Int.ofNat l5))
 (ld1 v_2 h fun v7 =>
 asS v7 fun l8 c9 =>
 c (.func 111) [(.str l8 c9)] h fun v10 h11 =>
 ext 0 v10 fun v12 =>
 asI .i32 v12 fun _ =>
 ext 1 v10 fun v14 =>
 asI .i64 v14 fun n15 =>
 ld1 v_2 h11 fun v16 =>
 asS v16 fun l17 c18 =>
 natI n15 fun m19 =>
 cutS l17 c18 0 m19 fun l20 c21 =>
 callV (CP env) c v_0 [(.str l20 c21)] h11 fun v22 h23 =>
 asB v22 fun b24 =>
 cnd (bnot b24)
 (k (.tuple []) h23)
 (ld1 v_2 h23 fun v25 =>
 asS v25 fun l26 c27 =>
 natI n15 fun m28 =>
 cutS l26 c27 m28 l26 fun l29 c30 =>
 st1 v_2 (.str l29 c30) h23 fun h31 =>
 J.a1 v_0 v_2 h31))
 (k (.tuple []) h)
noncomputable def s110_2 (c : Caller Prop FT) (k : KV) (J : J110) (v_0 : AV) (v_1 : AV) (v_2 : AV) (v_3 : AV) (h : H) : Prop :=
 ld1 v_2 h fun v32 =>
 asS v32 fun l33 c34 =>
 ld1 v_1 h fun v35 =>
 asS v35 fun l36 c37 =>
 c (.func 112) [(.str l33 c34), (.str l36 c37)] h fun v38 h39 =>
 asI .i64 v38 fun n40 =>
 cnd (iblt n40 (Int.ofNat 0))
 (ld1 v_2 h39 fun v41 =>
 asS v41 fun l42 c43 =>
 callV (CP env) c v_0 [(.str l42 c43)] h39 fun v44 h45 =>
 asB v44 fun _ =>
 k (.tuple []) h45)
 (ld1 v_2 h39 fun v47 =>
 asS v47 fun l48 c49 =>
 ld1 v_3 h39 fun v50 =>
 asI .i64 v50 fun n51 =>
 fI (wrap .i64 (iadd n40 n51)) fun n52 =>
 natI n52 fun m53 =>
 cutS l48 c49 0 m53 fun l54 c55 =>
 callV (CP env) c v_0 [(.str l54 c55)] h39 fun v56 h57 =>
 asB v56 fun b58 =>
 cnd (bnot b58)
 (k (.tuple []) h57)
 (ld1 v_2 h57 fun v59 =>
 asS v59 fun l60 c61 =>
 ld1 v_1 h57 fun v62 =>
 asS v62 fun l63 _ =>
 fI (wrap .i64 (iadd n40 (Int.ofNat l63))) fun n65 =>
 natI n65 fun m66 =>
 cutS l60 c61 m66 l60 fun l67 c68 =>
 st1 v_2 (.str l67 c68) h57 fun h69 =>
 J.a2 v_0 v_1 v_2 v_3 h69))
noncomputable def z110 : J110 := ⟨fun _ _ _ _ _ => False, fun _ _ _ => False, fun _ _ _ _ _ => False⟩
noncomputable def r110 (c : Caller Prop FT) (k : KV) (m : Nat) : J110 := Nat.rec z110 (fun _ J => ⟨s110_0 c k J, s110_1 c k J, s110_2 c k J⟩) m
noncomputable def f110 (J : J110) : Jump := fun L f h => match L with
  | 0 => J.a0 (f 0) (f 1) (f 2) (f 3) h
  | 1 => J.a1 (f 0) (f 2) h
  | 2 => J.a2 (f 0) (f 1) (f 2) (f 3) h
  | _ => False
noncomputable def u110 : Cuts := [(.root, 0), ((.l (.l (.l (.r (.l .root))))), 1), ((.l (.l (.r .root))), 2)]
noncomputable def d111 : Code := Option.rec .skip (fun c => c) Go.Proofs.Tryz.f111.body
noncomputable def q111 : Plans := []
noncomputable def u111 : Cuts := [(.root, 0)]
noncomputable def d112 : Code := Option.rec .skip (fun c => c) Go.Proofs.Tryz.f112.body
noncomputable def q112 : Plans := []
structure J112 where
  a0 : Nat → Nat → Nat → Nat → H → Prop
noncomputable def s112_0 (c : Caller Prop FT) (k : KV) (_J : J112) (l_0 : Nat) (c_0 : Nat) (l_1 : Nat) (c_1 : Nat) (h : H) : Prop :=
 c (.func 158) [(.str l_0 c_0), (.str l_1 c_1)] h fun v1 h2 =>
 asI .i64 v1 fun n3 =>
 k (.int .i64 n3) h2
noncomputable def z112 : J112 := ⟨fun _ _ _ _ _ => False⟩
noncomputable def r112 (c : Caller Prop FT) (k : KV) (m : Nat) : J112 := Nat.rec z112 (fun _ J => ⟨s112_0 c k J⟩) m
noncomputable def f112 (J : J112) : Jump := fun L f h => match L with
  | 0 => asS (f 0) fun l_0 c_0 => asS (f 1) fun l_1 c_1 => J.a0 l_0 c_0 l_1 c_1 h
  | _ => False
noncomputable def u112 : Cuts := [(.root, 0)]
noncomputable def d113 : Code := Option.rec .skip (fun c => c) Go.Proofs.Tryz.f113.body
noncomputable def q113 : Plans := []
noncomputable def u113 : Cuts := [(.root, 0)]
noncomputable def d115 : Code := Option.rec .skip (fun c => c) Go.Proofs.Tryz.f115.body
noncomputable def q115 : Plans := []
structure J115 where
  a0 : AV → H → Prop
noncomputable def s115_0 (_c : Caller Prop FT) (k : KV) (_J : J115) (v_0 : AV) (h : H) : Prop :=
 asG v_0 fun g1 =>
 chk (Nat.ble 1 (len g1)) <|
 Hp.newK h (rowOf 45 g1) fun p2 h3 =>
 fAddr 0 (.ptr p2 0) fun v4 =>
 ld1 v4 h3 fun v5 =>
 asI .i64 v5 fun n6 =>
 joinB (fun k7 => gate true (ibeq n6 (Int.ofNat 5))
 (fAddr 1 (.ptr p2 0) fun v10 =>
 ld1 v10 h3 fun v11 =>
 asS v11 fun l12 c13 =>
 joinB (fun k14 => gate false (strEq l12 c13 1 35)
 (fAddr 1 (.ptr p2 0) fun v17 =>
 ld1 v17 h3 fun v18 =>
 asS v18 fun l19 c20 =>
 k14 (strEq l19 c20 2 14885) h3)
 (k14 true h3)) fun b16 h15 =>
 k7 b16 h15)
 (k7 false h3)) fun b9 h8 =>
 k (.bool b9) h8
noncomputable def z115 : J115 := ⟨fun _ _ => False⟩
noncomputable def r115 (c : Caller Prop FT) (k : KV) (m : Nat) : J115 := Nat.rec z115 (fun _ J => ⟨s115_0 c k J⟩) m
noncomputable def f115 (J : J115) : Jump := fun L f h => match L with
  | 0 => J.a0 (f 0) h
  | _ => False
noncomputable def u115 : Cuts := [(.root, 0)]
noncomputable def d116 : Code := Option.rec .skip (fun c => c) Go.Proofs.Tryz.f116.body
noncomputable def q116 : Plans := []
structure J116 where
  a0 : AV → Nat → Nat → H → Prop
noncomputable def s116_0 (c : Caller Prop FT) (k : KV) (_J : J116) (v_0 : AV) (l_1 : Nat) (c_1 : Nat) (h : H) : Prop :=
 one v_0 <|
 Hp.newK h (rowOf 292 [v_0]) fun p1 h2 =>
 ld1 (.ptr p1 0) h2 fun v3 =>
 oK (exNil v3 h2) fun v4 h5 =>
 fAddr 0 v4 fun v6 =>
 c (.func 159) [v6, (.func (.func 160) [] [(.ptr p1 0)])] h5 fun _ h8 =>
 ld1 (.ptr p1 0) h8 fun v9 =>
 oK (exNil v9 h8) fun v10 h11 =>
 fAddr 3 v10 fun v12 =>
 ld1 v12 h11 fun v13 =>
 oK (exLookup env 107 v13 (.str l_1 c_1) true h11) fun v14 h15 =>
 ext 0 v14 fun v16 =>
 asI .i64 v16 fun n17 =>
 ext 1 v14 fun v18 =>
 asB v18 fun b19 =>
 cnd b19
 (k (.int .i64 n17) h15)
 (k (.int .i64 (Int.ofNat 14)) h15)
noncomputable def z116 : J116 := ⟨fun _ _ _ _ => False⟩
noncomputable def r116 (c : Caller Prop FT) (k : KV) (m : Nat) : J116 := Nat.rec z116 (fun _ J => ⟨s116_0 c k J⟩) m
noncomputable def f116 (J : J116) : Jump := fun L f h => match L with
  | 0 => asS (f 1) fun l_1 c_1 => J.a0 (f 0) l_1 c_1 h
  | _ => False
noncomputable def u116 : Cuts := [(.root, 0)]
noncomputable def d117 : Code := Option.rec .skip (fun c => c) Go.Proofs.Tryz.f117.body
noncomputable def q117 : Plans := [(2, [0, 1, 2, 3, 4, 5, 6, 7, 8, 9, 10, 11, 12, 13, 14, 15, 16, 17, 18, 19, 20, 21, 22, 23, 24, 25, 30, 26, 27, 28, 29, 31, 32]), (3, [0, 1, 2, 3, 4, 5]), (6, [0, 1, 2, 3, 4, 5, 6, 7, 8]), (8, [0, 1, 2, 3, 4, 5, 6, 7, 8, 9, 10, 11, 12, 13, 14, 15, 16]), (10, [0, 1, 2, 3, 4, 5, 6, 7, 8, 9, 10, 11, 12, 13, 16, 17, 14, 15, 18, 19])]
noncomputable def u117 : Cuts := [(.root, 0), ((.r (.l (.r (.r .root)))), 1)]
noncomputable def d118 : Code := Option.rec .skip (fun c => c) Go.Proofs.Tryz.f118.body
noncomputable def q118 : Plans := [(2, [0, 1, 2, 3, 4, 5, 6, 7, 8])]
noncomputable def u118 : Cuts := [(.root, 0), ((.r (.r (.r (.r (.r (.r (.r .root))))))), 1), ((.r (.r (.r (.r (.r (.r .root)))))), 2), ((.r (.r (.r (.r .root)))), 3)]
noncomputable def d119 : Code := Option.rec .skip (fun c => c) Go.Proofs.Tryz.f119.body
noncomputable def q119 : Plans := [(10, [0, 1, 2, 3, 4, 5, 6, 7, 8]), (13, [0, 1, 2, 3, 4, 5, 6, 7, 8]), (14, [0, 1, 2, 3, 4, 5, 6, 7, 8, 9, 10, 11, 12, 13, 14, 15, 17, 18, 19, 20, 16, 21, 22, 23, 24, 25, 26, 27]), (16, [0, 1, 2, 3, 4, 5, 6, 7, 8])]
structure J119 where
  a0 : AV → Int → H → Prop
noncomputable def s119_0 (c : Caller Prop FT) (k : KV) (_J : J119) (v_0 : AV) (n_1 : Int) (h : H) : Prop :=
 cnd (ibeq n_1 (Int.ofNat 8))
 (c (.func 164) [v_0] h fun _ h2 =>
 k (.tuple []) h2)
 (cnd (ibeq n_1 (Int.ofNat 9))
 (c (.func 165) [v_0] h fun _ h4 =>
 k (.tuple []) h4)
 (cnd (ibeq n_1 (Int.ofNat 10))
 (c (.func 166) [v_0] h fun _ h6 =>
 k (.tuple []) h6)
 (cnd (ibeq n_1 (Int.ofNat 11))
 (c (.func 167) [v_0] h fun _ h8 =>
 k (.tuple []) h8)
 (cnd (ibeq n_1 (Int.ofNat 12))
 (oK (exNil v_0 h) fun v9 h10 =>
 fAddr 0 v9 fun v11 =>
 ld1 v11 h10 fun v12 =>
 oK (exNil v_0 h10) fun v13 h14 =>
 fAddr 10 v13 fun v15 =>
 ldn 3 v15 h14 fun v16 =>
 c (.func 70) [v12, (.int .i64 (Int.ofNat 16)), v16] h14 fun _ h18 =>
 k (.tuple []) h18)
 (cnd (ibeq n_1 (Int.ofNat 13))
 (oK (exNil v_0 h) fun v19 h20 =>
 fAddr 0 v19 fun v21 =>
 ld1 v21 h20 fun v22 =>
 oK (exNil v22 h20) fun v23 h24 =>
 fAddr 7 v23 fun v25 =>
 ld1 v25 h24 fun v26 =>
 c (.func 168) [v26, (.int .i64 (Int.ofNat 1))] h24 fun v27 h28 =>
 asB v27 fun b29 =>
 cnd (bnot b29)
 (oK (exNil v_0 h28) fun v30 h31 =>
 fAddr 0 v30 fun v32 =>
 ld1 v32 h31 fun v33 =>
 oK (exNil v_0 h31) fun v34 h35 =>
 fAddr 10 v34 fun v36 =>
 ldn 3 v36 h35 fun v37 =>
 c (.func 169) [v33, v37] h35 fun _ h39 =>
 k (.tuple []) h39)
 (oK (exNil v_0 h28) fun v40 h41 =>
 fAddr 0 v40 fun v42 =>
 ld1 v42 h41 fun v43 =>
 oK (exNil v_0 h41) fun v44 h45 =>
 fAddr 0 v44 fun v46 =>
 ld1 v46 h45 fun v47 =>
 oK (exNil v47 h45) fun v48 h49 =>
 fAddr 8 v48 fun v50 =>
 fAddr 0 v50 fun v51 =>
 ld1 v51 h49 fun v52 =>
 oK (exNil v_0 h49) fun v53 h54 =>
 fAddr 13 v53 fun v55 =>
 ld1 v55 h54 fun v56 =>
 oK (exNil v_0 h54) fun v57 h58 =>
 fAddr 10 v57 fun v59 =>
 ldn 3 v59 h58 fun v60 =>
 c (.func 170) [v56] h58 fun v61 h62 =>
 asS v61 fun l63 c64 =>
 ld1 v42 h62 fun v65 =>
 eqC v65 v43 <|
 ld1 v46 h62 fun v66 =>
 eqC v66 v47 <|
 ld1 v51 h62 fun v67 =>
 eqC v67 v52 <|
 ldn 3 v59 h62 fun v68 =>
 eqC v68 v60 <|
 oK (exBuild env (env.ty 45) [(0, (.int .i64 (Int.ofNat 7))), (1, (.str l63 c64)), (3, v60)] h62) fun v69 h70 =>
 oK (withElem env 32 (fun e ei => exBuildSlice 1 [(0, v69)] h70 e ei)) fun v71 h72 =>
 ld1 v42 h72 fun v73 =>
 eqC v73 v43 <|
 ld1 v46 h72 fun v74 =>
 eqC v74 v47 <|
 ld1 v51 h72 fun v75 =>
 eqC v75 v52 <|
 oK (builtinA env .append [32, 32] [v52, v71] h72) fun v76 h77 =>
 ld1 v42 h77 fun v78 =>
 eqC v78 v43 <|
 oK (exNil v43 h77) fun v79 h80 =>
 fAddr 8 v79 fun v81 =>
 fAddr 0 v81 fun v82 =>
 st1 v82 v76 h80 fun h83 =>
 k (.tuple []) h83))
 (cnd (ibeq n_1 (Int.ofNat 14))
 (oK (exNil v_0 h) fun v84 h85 =>
 fAddr 0 v84 fun v86 =>
 ld1 v86 h85 fun v87 =>
 oK (exNil v_0 h85) fun v88 h89 =>
 fAddr 10 v88 fun v90 =>
 ldn 3 v90 h89 fun v91 =>
 c (.func 70) [v87, (.int .i64 (Int.ofNat 3)), v91] h89 fun _ h93 =>
 k (.tuple []) h93)
 (k (.tuple []) h)))))))
noncomputable def z119 : J119 := ⟨fun _ _ _ => False⟩
noncomputable def r119 (c : Caller Prop FT) (k : KV) (m : Nat) : J119 := Nat.rec z119 (fun _ J => ⟨s119_0 c k J⟩) m
noncomputable def f119 (J : J119) : Jump := fun L f h => match L with
  | 0 => asI .i64 (f 1) fun n_1 => J.a0 (f 0) n_1 h
  | _ => False
noncomputable def u119 : Cuts := [(.root, 0)]
noncomputable def d120 : Code := Option.rec .skip (fun c => c) Go.Proofs.Tryz.f120.body
noncomputable def q120 : Plans := [(4, [0, 1, 2, 3, 4, 5, 6, 7, 8, 9, 10, 11, 12, 13, 14]), (6, [0, 1, 2, 3, 4, 5, 6, 7, 8, 9, 10, 11, 12, 13, 14, 15, 16, 17])]
structure J120 where
  a0 : AV → Int → Int → H → Prop
  a1 : AV → Int → Int → Int → H → Prop
  a2 : AV → Int → Int → Int → Int → H → Prop
noncomputable def s120_0 (_c : Caller Prop FT) (_k : KV) (J : J120) (v_0 : AV) (n_1 : Int) (n_2 : Int) (h : H) : Prop :=
 fI (wrap .i64 (iadd n_1 (Int.ofNat 1))) fun n1 =>
 J.a1 v_0 n_1 n_2 n1 h
noncomputable def s120_1 (_c : Caller Prop FT) (k : KV) (J : J120) (v_0 : AV) (n_1 : Int) (n_2 : Int) (n_6 : Int) (h : H) : Prop :=
 cnd (iblt n_6 n_2)
 (J.a2 v_0 n_1 n_2 n_6 n_6 h)
 (k (.tuple []) h)
noncomputable def s120_2 (c : Caller Prop FT) (_k : KV) (J : J120) (v_0 : AV) (n_1 : Int) (n_2 : Int) (n_6 : Int) (n_7 : Int) (h : H) : Prop :=
 joinB (fun k2 => gate true (iblt n_1 n_7)
 (natI n_7 fun m5 =>
 elemA 1 m5 v_0 fun v6 =>
 ld1 v6 h fun v7 =>
 asS v7 fun l8 c9 =>
 fI (wrap .i64 (isub n_7 (Int.ofNat 1))) fun n10 =>
 natI n10 fun m11 =>
 elemA 1 m11 v_0 fun v12 =>
 ld1 v12 h fun v13 =>
 asS v13 fun l14 c15 =>
 c (.func 126) [(.str l8 c9), (.str l14 c15)] h fun v16 h17 =>
 asB v16 fun b18 =>
 k2 b18 h17)
 (k2 false h)) fun b4 h3 =>
 cnd b4
 (fI (wrap .i64 (isub n_7 (Int.ofNat 1))) fun n19 =>
 fI (wrap .i64 (isub n_7 (Int.ofNat 1))) fun n20 =>
 natI n20 fun m21 =>
 elemA 1 m21 v_0 fun v22 =>
 ld1 v22 h3 fun v23 =>
 asS v23 fun l24 c25 =>
 natI n_7 fun m26 =>
 elemA 1 m26 v_0 fun v27 =>
 ld1 v27 h3 fun v28 =>
 asS v28 fun l29 c30 =>
 natI n_7 fun m31 =>
 elemA 1 m31 v_0 fun v32 =>
 st1 v32 (.str l24 c25) h3 fun h33 =>
 natI n19 fun m34 =>
 elemA 1 m34 v_0 fun v35 =>
 st1 v35 (.str l29 c30) h33 fun h36 =>
 fI (wrap .i64 (isub n_7 (Int.ofNat 1))) fun n37 =>
 J.a2 v_0 n_1 n_2 n_6 n37 h36)
 (fI (wrap .i64 (iadd n_6 (Int.ofNat 1))) fun n38 =>
 J.a1 v_0 n_1 n_2 n38 h3)
noncomputable def z120 : J120 := ⟨fun _ _ _ _ => False, fun _ _ _ _ _ => False, fun _ _ _ _ _ _ => False⟩
noncomputable def r120 (c : Caller Prop FT) (k : KV) (m : Nat) : J120 := Nat.rec z120 (fun _ J => ⟨s120_0 c k J, s120_1 c k J, s120_2 c k J⟩) m
noncomputable def f120 (J : J120) : Jump := fun L f h => match L with
  | 0 => asI .i64 (f 1) fun n_1 => asI .i64 (f 2) fun n_2 => J.a0 (f 0) n_1 n_2 h
  | 1 => asI .i64 (f 1) fun n_1 => asI .i64 (f 2) fun n_2 => asI .i64 (f 6) fun n_6 => J.a1 (f 0) n_1 n_2 n_6 h
  | 2 => asI .i64 (f 1) fun n_1 => asI .i64 (f 2) fun n_2 => asI .i64 (f 6) fun n_6 => asI .i64 (f 7) fun n_7 => J.a2 (f 0) n_1 n_2 n_6 n_7 h
  | _ => False
noncomputable def u120 : Cuts := [(.root, 0), ((.l (.r .root)), 1), ((.l (.r (.l (.l (.r (.l (.l (.r .root)))))))), 2)]
noncomputable def d122 : Code := Option.rec .skip (fun c => c) Go.Proofs.Tryz.f122.body
noncomputable def q122 : Plans := [(10, [0, 1, 2, 3, 4, 5, 6, 7, 8, 9, 10, 11, 12, 13, 14, 15, 16, 17, 18, 19])]
noncomputable def u122 : Cuts := [(.root, 0), ((.l (.r (.r (.r (.l (.r (.r .root))))))), 1), ((.r (.r (.l (.l (.r (.l (.l (.r (.r (.r (.l (.r (.r .root))))))))))))), 2)]
noncomputable def d123 : Code := Option.rec .skip (fun c => c) Go.Proofs.Tryz.f123.body
noncomputable def q123 : Plans := []
noncomputable def u123 : Cuts := [(.root, 0), ((.r (.l (.r (.l (.r (.r (.r (.r (.r (.r .root)))))))))), 1), ((.r (.r (.r (.r (.r (.r (.r .root))))))), 2)]
noncomputable def d124 : Code := Option.rec .skip (fun c => c) Go.Proofs.Tryz.f124.body
noncomputable def q124 : Plans := [(3, [0, 1, 2, 3, 4, 5, 6, 7, 8, 9, 10, 11, 12, 13, 14, 15])]
noncomputable def u124 : Cuts := [(.root, 0), ((.l (.r (.r .root))), 1)]
noncomputable def d125 : Code := Option.rec .skip (fun c => c) Go.Proofs.Tryz.f125.body
noncomputable def q125 : Plans := [(5, [0, 1, 2, 3, 4, 5, 6, 7, 8, 9, 10, 11, 12, 13, 14, 15]), (11, [0, 1, 2, 3, 4, 5, 6, 7, 8, 9, 10, 11, 12, 13, 14, 15, 16, 17]), (16, [0, 1, 2, 3, 4, 5, 6, 7, 8, 9, 10]), (17, [0, 1, 2, 3, 4, 5, 6, 7, 8, 9, 10, 11, 12, 13, 14, 15, 16, 17]), (22, [0, 1, 2, 3, 4, 5, 6, 7, 8, 9, 10]), (23, [0, 1, 2, 3, 4, 5, 6, 7, 8, 9, 10, 11, 12, 13, 14, 15, 16, 17])]
noncomputable def u125 : Cuts := [(.root, 0), ((.l (.r (.l (.r (.r .root))))), 1), ((.l (.l (.l (.l (.r (.l (.l (.r (.l (.r (.r .root))))))))))), 2), ((.l (.r (.l (.r (.l (.r (.r (.r (.r (.l (.l (.r (.l (.l (.r (.l (.r (.r .root)))))))))))))))))), 3), ((.l (.r (.l (.r (.r (.r (.r (.r (.r (.l (.l (.r (.l (.l (.r (.l (.r (.r .root)))))))))))))))))), 4), ((.r (.r (.r (.r (.r (.l (.l (.r (.l (.l (.r (.l (.r (.r .root)))))))))))))), 5), ((.r (.r (.l (.l (.r (.l (.r (.r .root)))))))), 6)]
noncomputable def d126 : Code := Option.rec .skip (fun c => c) Go.Proofs.Tryz.f126.body
noncomputable def q126 : Plans := []
structure J126 where
  a0 : Nat → Nat → Nat → Nat → H → Prop
noncomputable def s126_0 (c : Caller Prop FT) (k : KV) (_J : J126) (l_0 : Nat) (c_0 : Nat) (l_1 : Nat) (c_1 : Nat) (h : H) : Prop :=
 c (.func 176) [(.str l_0 c_0)] h fun v1 h2 =>
 asB v1 fun b3 =>
 joinB (fun k4 => gate true b3
 (c (.func 176) [(.str l_1 c_1)] h2 fun v7 h8 =>
 asB v7 fun b9 =>
 k4 (bnot b9) h8)
 (k4 false h2)) fun b6 h5 =>
 joinB (fun k10 => gate false b6
 (k10 (ltS l_0 c_0 l_1 c_1) h5)
 (k10 true h5)) fun b12 h11 =>
 k (.bool b12) h11
noncomputable def z126 : J126 := ⟨fun _ _ _ _ _ => False⟩
noncomputable def r126 (c : Caller Prop FT) (k : KV) (m : Nat) : J126 := Nat.rec z126 (fun _ J => ⟨s126_0 c k J⟩) m
noncomputable def f126 (J : J126) : Jump := fun L f h => match L with
  | 0 => asS (f 0) fun l_0 c_0 => asS (f 1) fun l_1 c_1 => J.a0 l_0 c_0 l_1 c_1 h
  | _ => False
noncomputable def u126 : Cuts := [(.root, 0)]
noncomputable def d127 : Code := Option.rec .skip (fun c => c) Go.Proofs.Tryz.f127.body
noncomputable def q127 : Plans := [(1, [0, 1, 2, 3, 4, 5, 6, 7, 8, 9, 10, 11, 12, 13, 14, 15]), (3, [0, 1, 2, 3, 4, 5, 6, 7, 8, 9, 10, 11, 12, 13, 14]), (5, [0, 1, 2, 3, 4, 5, 6, 7, 8, 9, 10, 11, 12, 13]), (8, [0, 1, 2, 3, 4, 5, 6, 7, 8, 9, 10, 11, 12, 13, 14, 15])]
noncomputable def u127 : Cuts := [(.root, 0), ((.l (.l (.r (.r (.r .root))))), 1), ((.l (.l (.l (.l (.l (.l (.r (.r (.r .root))))))))), 2), ((.l (.l (.r (.l (.l (.l (.l (.r (.r (.r .root)))))))))), 3)]
noncomputable def d128 : Code := Option.rec .skip (fun c => c) Go.Proofs.Tryz.f128.body
noncomputable def q128 : Plans := [(1, [0, 1, 2, 3, 4, 5, 6, 7, 8, 9, 10, 11, 12, 13, 14, 15]), (3, [0, 1, 2, 3, 4, 5, 6, 7, 8, 9, 10, 11, 12, 13]), (5, [0, 1, 2, 3, 4, 5, 6, 7, 8, 9, 10, 11, 12, 13, 14]), (8, [0, 1, 2, 3, 4, 5, 6, 7, 8, 9, 10, 11, 12, 13, 14, 15]), (10, [0, 1, 2, 3, 4, 5, 6, 7, 8, 9, 10, 11, 12, 13, 14, 15]), (13, [0, 1, 2, 3, 4, 5, 6, 7, 8, 9, 10, 11, 12, 13]), (15, [0, 1, 2, 3, 4, 5, 6, 7, 8, 9, 10, 11, 12, 13, 14]), (18, [0, 1, 2, 3, 4, 5, 6, 7, 8, 9, 10, 11, 12, 13, 14, 15]), (21, [0, 1, 2, 3, 4, 5, 6, 7, 8, 9, 10, 11, 12, 13, 14, 15])]
noncomputable def u128 : Cuts := [(.root, 0), ((.l (.l (.r (.r (.r .root))))), 1), ((.l (.l (.r (.r (.r (.r .root)))))), 2), ((.l (.l (.r (.r (.r (.r (.r (.r (.r (.r (.r .root))))))))))), 3), ((.l (.l (.l (.l (.l (.l (.r (.r (.r (.r (.r (.r (.r (.r (.r .root))))))))))))))), 4), ((.l (.l (.r (.l (.l (.l (.l (.r (.r (.r (.r (.r (.r (.r (.r (.r .root)))))))))))))))), 5), ((.r (.r (.r (.r (.r (.r (.r (.r (.r .root))))))))), 6)]
noncomputable def d129 : Code := Option.rec .skip (fun c => c) Go.Proofs.Tryz.f129.body
noncomputable def q129 : Plans := []
noncomputable def u129 : Cuts := [(.root, 0), ((.r (.r (.r .root))), 1), ((.r (.r .root)), 2)]
noncomputable def d130 : Code := Option.rec .skip (fun c => c) Go.Proofs.Tryz.f130.body
noncomputable def q130 : Plans := []
structure J130 where
  a0 : Int → H → Prop
  a1 : Int → Int → H → Prop
  a2 : Int → Int → H → Prop
  a3 : Int → Int → H → Prop
noncomputable def s130_0 (_c : Caller Prop FT) (_k : KV) (J : J130) (n_0 : Int) (h : H) : Prop :=
 cnd (ible (Int.ofNat 4294967296) n_0)
 (shrI .u64 n_0 (Int.ofNat 32) fun n1 =>
 J.a3 n1 (Int.ofNat 32) h)
 (J.a3 n_0 (Int.ofNat 0) h)
noncomputable def s130_1 (_c : Caller Prop FT) (k : KV) (_J : J130) (n_0 : Int) (n_2 : Int) (h : H) : Prop :=
 fI (wrap .u8 n_0) fun n2 =>
 natI n2 fun m3 =>
 idxS 256 1013866857139168856493015739252390649739422828853819106890363778118420553376247557433637691341895324351018602695588957474325319502760499485336098898398377509666851054660423406800006203933793007272033180812049178612605246075062580585469430410618860250057463399279570354286669047577758927328864388992123306212451509403152394148136105363817402562688186708175358218852349079190158732807302672745370040257219644697201681238697346923541678507645485296520536209706771857694240900605172937619415410180424934769249448772944216470541052485265558808433676546390051204254346932932316488017972311616136051587427851453983453479168 m3 fun m4 =>
 fI (wrap .i64 (Int.ofNat m4)) fun n5 =>
 fI (wrap .i64 (iadd n_2 n5)) fun n6 =>
 k (.int .i64 n6) h
noncomputable def s130_2 (_c : Caller Prop FT) (_k : KV) (J : J130) (n_0 : Int) (n_2 : Int) (h : H) : Prop :=
 cnd (ible (Int.ofNat 256) n_0)
 (shrI .u64 n_0 (Int.ofNat 8) fun n7 =>
 fI (wrap .i64 (iadd n_2 (Int.ofNat 8))) fun n8 =>
 J.a1 n7 n8 h)
 (J.a1 n_0 n_2 h)
noncomputable def s130_3 (_c : Caller Prop FT) (_k : KV) (J : J130) (n_0 : Int) (n_2 : Int) (h : H) : Prop :=
 cnd (ible (Int.ofNat 65536) n_0)
 (shrI .u64 n_0 (Int.ofNat 16) fun n9 =>
 fI (wrap .i64 (iadd n_2 (Int.ofNat 16))) fun n10 =>
 J.a2 n9 n10 h)
 (J.a2 n_0 n_2 h)
noncomputable def z130 : J130 := ⟨fun _ _ => False, fun _ _ _ => False, fun _ _ _ => False, fun _ _ _ => False⟩
noncomputable def r130 (c : Caller Prop FT) (k : KV) (m : Nat) : J130 := Nat.rec z130 (fun _ J => ⟨s130_0 c k J, s130_1 c k J, s130_2 c k J, s130_3 c k J⟩) m
noncomputable def f130 (J : J130) : Jump := fun L f h => match L with
  | 0 => asI .u64 (f 0) fun n_0 => J.a0 n_0 h
  | 1 => asI .u64 (f 0) fun n_0 => asI .i64 (f 2) fun n_2 => J.a1 n_0 n_2 h
  | 2 => asI .u64 (f 0) fun n_0 => asI .i64 (f 2) fun n_2 => J.a2 n_0 n_2 h
  | 3 => asI .u64 (f 0) fun n_0 => asI .i64 (f 2) fun n_2 => J.a3 n_0 n_2 h
  | _ => False
noncomputable def u130 : Cuts := [(.root, 0), ((.r (.r (.r (.r .root)))), 1), ((.r (.r (.r .root))), 2), ((.r (.r .root)), 3)]
noncomputable def d131 : Code := Option.rec .skip (fun c => c) Go.Proofs.Tryz.f131.body
noncomputable def q131 : Plans := []
structure J131 where
  a0 : Int → H → Prop
noncomputable def s131_0 (_c : Caller Prop FT) (k : KV) (_J : J131) (n_0 : Int) (h : H) : Prop :=
 joinB (fun k1 => gate false (ibeq n_0 (Int.ofNat 32))
 (joinB (fun k4 => gate true (ible (Int.ofNat 9) n_0)
 (k4 (ible n_0 (Int.ofNat 13)) h)
 (k4 false h)) fun b6 h5 =>
 joinB (fun k7 => gate true b6
 (k7 (bnot (ibeq n_0 (Int.ofNat 10))) h5)
 (k7 false h5)) fun b9 h8 =>
 k1 b9 h8)
 (k1 true h)) fun b3 h2 =>
 k (.bool b3) h2
noncomputable def z131 : J131 := ⟨fun _ _ => False⟩
noncomputable def r131 (c : Caller Prop FT) (k : KV) (m : Nat) : J131 := Nat.rec z131 (fun _ J => ⟨s131_0 c k J⟩) m
noncomputable def f131 (J : J131) : Jump := fun L f h => match L with
  | 0 => asI .u8 (f 0) fun n_0 => J.a0 n_0 h
  | _ => False
noncomputable def u131 : Cuts := [(.root, 0)]
noncomputable def d132 : Code := Option.rec .skip (fun c => c) Go.Proofs.Tryz.f132.body
noncomputable def q132 : Plans := [(3, [0, 1, 2, 3, 4, 5, 6, 7, 8, 9, 10, 11, 12, 13, 14, 15, 16, 17, 18, 19, 20, 21, 22, 23]), (9, [0, 1, 2, 3, 4, 5, 6, 7, 8, 9]), (14, [0, 1, 2, 3, 4, 5, 6, 7, 8, 9, 10, 11, 12, 13, 14, 15])]
structure J132 where
  a0 : AV → H → Prop
  a1 : AV → H → Prop
  a2 : AV → Int → H → Prop
noncomputable def s132_0 (c : Caller Prop FT) (k : KV) (J : J132) (v_0 : AV) (h : H) : Prop :=
 oK (exNil v_0 h) fun v1 h2 =>
 fAddr 2 v1 fun v3 =>
 ld1 v3 h2 fun v4 =>
 asI .i64 v4 fun n5 =>
 c (.func 177) [v_0, (.str 2 12079)] h2 fun v6 h7 =>
 asB v6 fun b8 =>
 cnd b8
 (J.a1 v_0 h7)
 (c (.func 177) [v_0, (.str 2 10799)] h7 fun v9 h10 =>
 asB v9 fun b11 =>
 cnd (bnot b11)
 (k (.tuple [(.bool false), (.bool false)]) h10)
 (oK (exNil v_0 h10) fun v12 h13 =>
 fAddr 2 v12 fun v14 =>
 ld1 v14 h13 fun v15 =>
 asI .i64 v15 fun n16 =>
 fI (wrap .i64 (iadd n16 (Int.ofNat 2))) fun n17 =>
 oK (exNil v_0 h13) fun v18 h19 =>
 fAddr 2 v18 fun v20 =>
 st1 v20 (.int .i64 n17) h19 fun h21 =>
 J.a2 v_0 n5 h21))
noncomputable def s132_1 (_c : Caller Prop FT) (k : KV) (J : J132) (v_0 : AV) (h : H) : Prop :=
 oK (exNil v_0 h) fun v22 h23 =>
 fAddr 2 v22 fun v24 =>
 ld1 v24 h23 fun v25 =>
 asI .i64 v25 fun n26 =>
 oK (exNil v_0 h23) fun v27 h28 =>
 fAddr 1 v27 fun v29 =>
 ld1 v29 h28 fun v30 =>
 lenV v30 fun m31 =>
 joinB (fun k32 => gate true (iblt n26 (Int.ofNat m31))
 (oK (exNil v_0 h28) fun v35 h36 =>
 fAddr 1 v35 fun v37 =>
 ld1 v37 h36 fun v38 =>
 oK (exNil v_0 h36) fun v39 h40 =>
 fAddr 2 v39 fun v41 =>
 ld1 v41 h40 fun v42 =>
 asI .i64 v42 fun n43 =>
 natI n43 fun m44 =>
 elemA 3 m44 v38 fun v45 =>
 fAddr 0 v45 fun v46 =>
 ld1 v46 h40 fun v47 =>
 asI .u8 v47 fun n48 =>
 k32 (bnot (ibeq n48 (Int.ofNat 10))) h40)
 (k32 false h28)) fun b34 h33 =>
 cnd b34
 (oK (exNil v_0 h33) fun v49 h50 =>
 fAddr 2 v49 fun v51 =>
 ld1 v51 h50 fun v52 =>
 asI .i64 v52 fun n53 =>
 fI (wrap .i64 (iadd n53 (Int.ofNat 1))) fun n54 =>
 oK (exNil v_0 h50) fun v55 h56 =>
 fAddr 2 v55 fun v57 =>
 st1 v57 (.int .i64 n54) h56 fun h58 =>
 J.a1 v_0 h58)
 (k (.tuple [(.bool true), (.bool false)]) h33)
noncomputable def s132_2 (c : Caller Prop FT) (k : KV) (J : J132) (v_0 : AV) (n_4 : Int) (h : H) : Prop :=
 oK (exNil v_0 h) fun v59 h60 =>
 fAddr 2 v59 fun v61 =>
 ld1 v61 h60 fun v62 =>
 asI .i64 v62 fun n63 =>
 oK (exNil v_0 h60) fun v64 h65 =>
 fAddr 1 v64 fun v66 =>
 ld1 v66 h65 fun v67 =>
 lenV v67 fun m68 =>
 cnd (iblt n63 (Int.ofNat m68))
 (c (.func 177) [v_0, (.str 2 12074)] h65 fun v69 h70 =>
 asB v69 fun b71 =>
 cnd b71
 (oK (exNil v_0 h70) fun v72 h73 =>
 fAddr 2 v72 fun v74 =>
 ld1 v74 h73 fun v75 =>
 asI .i64 v75 fun n76 =>
 fI (wrap .i64 (iadd n76 (Int.ofNat 2))) fun n77 =>
 oK (exNil v_0 h73) fun v78 h79 =>
 fAddr 2 v78 fun v80 =>
 st1 v80 (.int .i64 n77) h79 fun h81 =>
 k (.tuple [(.bool true), (.bool false)]) h81)
 (oK (exNil v_0 h70) fun v82 h83 =>
 fAddr 2 v82 fun v84 =>
 ld1 v84 h83 fun v85 =>
 asI .i64 v85 fun n86 =>
 fI (wrap .i64 (iadd n86 (Int.ofNat 1))) fun n87 =>
 oK (exNil v_0 h83) fun v88 h89 =>
 fAddr 2 v88 fun v90 =>
 st1 v90 (.int .i64 n87) h89 fun h91 =>
 J.a2 v_0 n_4 h91))
 (oK (exNil v_0 h65) fun v92 h93 =>
 fAddr 3 v92 fun v94 =>
 ld1 v94 h93 fun v95 =>
 fI (wrap .i64 (iadd n_4 (Int.ofNat 2))) fun n96 =>
 c (.func 134) [v_0, (.int .i64 n_4), (.int .i64 n96)] h93 fun v97 h98 =>
 ld1 v94 h98 fun v99 =>
 eqC v99 v95 <|
 oK (exBuild env (env.ty 56) [(0, (.int .i64 (Int.ofNat 1))), (1, v97)] h98) fun v100 h101 =>
 oK (withElem env 33 (fun e ei => exBuildSlice 1 [(0, v100)] h101 e ei)) fun v102 h103 =>
 ld1 v94 h103 fun v104 =>
 eqC v104 v95 <|
 oK (builtinA env .append [33, 33] [v95, v102] h103) fun v105 h106 =>
 oK (exNil v_0 h106) fun v107 h108 =>
 fAddr 3 v107 fun v109 =>
 st1 v109 v105 h108 fun h110 =>
 k (.tuple [(.bool true), (.bool true)]) h110)
noncomputable def z132 : J132 := ⟨fun _ _ => False, fun _ _ => False, fun _ _ _ => False⟩
noncomputable def r132 (c : Caller Prop FT) (k : KV) (m : Nat) : J132 := Nat.rec z132 (fun _ J => ⟨s132_0 c k J, s132_1 c k J, s132_2 c k J⟩) m
noncomputable def f132 (J : J132) : Jump := fun L f h => match L with
  | 0 => J.a0 (f 0) h
  | 1 => J.a1 (f 0) h
  | 2 => asI .i64 (f 4) fun n_4 => J.a2 (f 0) n_4 h
  | _ => False
noncomputable def u132 : Cuts := [(.root, 0), ((.l (.l (.l (.r (.l (.l (.r (.r .root)))))))), 1), ((.l (.r (.l (.r (.r (.r .root)))))), 2)]
noncomputable def d133 : Code := Option.rec .skip (fun c => c) Go.Proofs.Tryz.f133.body
noncomputable def q133 : Plans := []
structure J133 where
  a0 : AV → H → Prop
  a1 : AV → Int → H → Prop
noncomputable def s133_0 (c : Caller Prop FT) (k : KV) (J : J133) (v_0 : AV) (h : H) : Prop :=
 c (.func 178) [v_0] h fun v1 h2 =>
 ext 0 v1 fun v3 =>
 asI .i64 v3 fun n4 =>
 ext 1 v1 fun v5 =>
 asI .i64 v5 fun n6 =>
 cnd (iblt (Int.ofNat 0) n6)
 (k (.tuple [(.int .i64 n4), (.int .i64 n6)]) h2)
 (c (.func 180) [v_0, (.int .i64 (Int.ofNat 0))] h2 fun v7 h8 =>
 asI .u8 v7 fun n9 =>
 c (.func 179) [(.int .u8 n9)] h8 fun v10 h11 =>
 asB v10 fun b12 =>
 cnd b12
 (J.a1 v_0 (Int.ofNat 1) h11)
 (c (.func 182) [v_0] h11 fun v13 h14 =>
 asI .i64 v13 fun n15 =>
 cnd (iblt (Int.ofNat 0) n15)
 (k (.tuple [(.int .i64 (Int.ofNat 2)), (.int .i64 n15)]) h14)
 (c (.func 183) [v_0] h14 fun v16 h17 =>
 asI .i64 v16 fun n18 =>
 cnd (iblt (Int.ofNat 0) n18)
 (k (.tuple [(.int .i64 (Int.ofNat 5)), (.int .i64 n18)]) h17)
 (k (.tuple [(.int .i64 (Int.ofNat 6)), (.int .i64 (Int.ofNat 1))]) h17))))
noncomputable def s133_1 (c : Caller Prop FT) (k : KV) (J : J133) (v_0 : AV) (n_3 : Int) (h : H) : Prop :=
 c (.func 180) [v_0, (.int .i64 n_3)] h fun v19 h20 =>
 asI .u8 v19 fun n21 =>
 c (.func 179) [(.int .u8 n21)] h20 fun v22 h23 =>
 asB v22 fun b24 =>
 joinB (fun k25 => gate false b24
 (c (.func 180) [v_0, (.int .i64 n_3)] h23 fun v28 h29 =>
 asI .u8 v28 fun n30 =>
 c (.func 181) [(.int .u8 n30)] h29 fun v31 h32 =>
 asB v31 fun b33 =>
 k25 b33 h32)
 (k25 true h23)) fun b27 h26 =>
 cnd b27
 (fI (wrap .i64 (iadd n_3 (Int.ofNat 1))) fun n34 =>
 J.a1 v_0 n34 h26)
 (k (.tuple [(.int .i64 (Int.ofNat 1)), (.int .i64 n_3)]) h26)
noncomputable def z133 : J133 := ⟨fun _ _ => False, fun _ _ _ => False⟩
noncomputable def r133 (c : Caller Prop FT) (k : KV) (m : Nat) : J133 := Nat.rec z133 (fun _ J => ⟨s133_0 c k J, s133_1 c k J⟩) m
noncomputable def f133 (J : J133) : Jump := fun L f h => match L with
  | 0 => J.a0 (f 0) h
  | 1 => asI .i64 (f 3) fun n_3 => J.a1 (f 0) n_3 h
  | _ => False
noncomputable def u133 : Cuts := [(.root, 0), ((.l (.r (.l (.l (.r (.l (.r (.r .root)))))))), 1)]
noncomputable def d134 : Code := Option.rec .skip (fun c => c) Go.Proofs.Tryz.f134.body
noncomputable def q134 : Plans := [(1, [0, 1, 2, 3, 4, 5, 6, 7, 8, 9, 10, 11, 12, 13, 14, 15, 16, 17, 18, 19, 20, 21, 22])]
structure J134 where
  a0 : AV → Int → Int → H → Prop
noncomputable def s134_0 (_c : Caller Prop FT) (k : KV) (_J : J134) (v_0 : AV) (n_1 : Int) (n_2 : Int) (h : H) : Prop :=
 Hp.newK h ob41 fun p1 h2 =>
 oK (exNil v_0 h2) fun v3 h4 =>
 fAddr 0 v3 fun v5 =>
 ld1 v5 h4 fun v6 =>
 asS v6 fun l7 c8 =>
 oK (exNil v_0 h4) fun v9 h10 =>
 fAddr 1 v9 fun v11 =>
 ld1 v11 h10 fun v12 =>
 natI n_1 fun m13 =>
 elemA 3 m13 v12 fun v14 =>
 fAddr 1 v14 fun v15 =>
 ld1 v15 h10 fun v16 =>
 asI .i64 v16 fun n17 =>
 oK (exNil v_0 h10) fun v18 h19 =>
 fAddr 1 v18 fun v20 =>
 ld1 v20 h19 fun v21 =>
 fI (wrap .i64 (isub n_2 (Int.ofNat 1))) fun n22 =>
 natI n22 fun m23 =>
 elemA 3 m23 v21 fun v24 =>
 fAddr 2 v24 fun v25 =>
 ld1 v25 h19 fun v26 =>
 asI .i64 v26 fun n27 =>
 oK (exBuild env (env.ty 41) [(0, (.str l7 c8)), (1, (.int .i64 n17)), (2, (.int .i64 n27))] h19) fun v28 h29 =>
 stn 3 (.ptr p1 0) v28 h29 fun h30 =>
 ldn 3 (.ptr p1 0) h30 fun v31 =>
 k v31 h30
noncomputable def z134 : J134 := ⟨fun _ _ _ _ => False⟩
noncomputable def r134 (c : Caller Prop FT) (k : KV) (m : Nat) : J134 := Nat.rec z134 (fun _ J => ⟨s134_0 c k J⟩) m
noncomputable def f134 (J : J134) : Jump := fun L f h => match L with
  | 0 => asI .i64 (f 1) fun n_1 => asI .i64 (f 2) fun n_2 => J.a0 (f 0) n_1 n_2 h
  | _ => False
noncomputable def u134 : Cuts := [(.root, 0)]
noncomputable def d135 : Code := Option.rec .skip (fun c => c) Go.Proofs.Tryz.f135.body
noncomputable def q135 : Plans := []
structure J135 where
  a0 : AV → Nat → Nat → H → Prop
  a1 : AV → Nat → Nat → Int → Int → Int → H → Prop
noncomputable def s135_0 (_c : Caller Prop FT) (_k : KV) (J : J135) (v_0 : AV) (l_1 : Nat) (c_1 : Nat) (h : H) : Prop :=
 lenV v_0 fun m1 =>
 J.a1 v_0 l_1 c_1 (Int.ofNat m1) (Int.ofNat 0) (Int.ofNat m1) h
noncomputable def s135_1 (c : Caller Prop FT) (k : KV) (J : J135) (v_0 : AV) (l_1 : Nat) (c_1 : Nat) (n_6 : Int) (n_7 : Int) (n_8 : Int) (h : H) : Prop :=
 cnd (iblt n_7 n_8)
 (fI (wrap .i64 (iadd n_7 n_8)) fun n2 =>
 fI (wrap .u64 n2) fun n3 =>
 shrI .u64 n3 (Int.ofNat 1) fun n4 =>
 fI (wrap .i64 n4) fun n5 =>
 natI n5 fun m6 =>
 elemA 1 m6 v_0 fun v7 =>
 ld1 v7 h fun v8 =>
 asS v8 fun l9 c10 =>
 c (.func 126) [(.str l9 c10), (.str l_1 c_1)] h fun v11 h12 =>
 asB v11 fun b13 =>
 cnd b13
 (fI (wrap .i64 (iadd n5 (Int.ofNat 1))) fun n14 =>
 J.a1 v_0 l_1 c_1 n_6 n14 n_8 h12)
 (J.a1 v_0 l_1 c_1 n_6 n_7 n5 h12))
 (joinB (fun k15 => gate true (iblt n_7 n_6)
 (natI n_7 fun m18 =>
 elemA 1 m18 v_0 fun v19 =>
 ld1 v19 h fun v20 =>
 asS v20 fun l21 c22 =>
 joinB (fun k23 => gate false (strEq l21 c22 l_1 c_1)
 (natI n_7 fun m26 =>
 elemA 1 m26 v_0 fun v27 =>
 ld1 v27 h fun v28 =>
 asS v28 fun l29 c30 =>
 c (.func 184) [(.str l29 c30)] h fun v31 h32 =>
 asB v31 fun b33 =>
 joinB (fun k34 => gate true b33
 (c (.func 184) [(.str l_1 c_1)] h32 fun v37 h38 =>
 asB v37 fun b39 =>
 k34 b39 h38)
 (k34 false h32)) fun b36 h35 =>
 k23 b36 h35)
 (k23 true h)) fun b25 h24 =>
 k15 b25 h24)
 (k15 false h)) fun b17 h16 =>
 k (.tuple [(.int .i64 n_7), (.bool b17)]) h16)
noncomputable def z135 : J135 := ⟨fun _ _ _ _ => False, fun _ _ _ _ _ _ _ => False⟩
noncomputable def r135 (c : Caller Prop FT) (k : KV) (m : Nat) : J135 := Nat.rec z135 (fun _ J => ⟨s135_0 c k J, s135_1 c k J⟩) m
noncomputable def f135 (J : J135) : Jump := fun L f h => match L with
  | 0 => asS (f 1) fun l_1 c_1 => J.a0 (f 0) l_1 c_1 h
  | 1 => asS (f 1) fun l_1 c_1 => asI .i64 (f 6) fun n_6 => asI .i64 (f 7) fun n_7 => asI .i64 (f 8) fun n_8 => J.a1 (f 0) l_1 c_1 n_6 n_7 n_8 h
  | _ => False
noncomputable def u135 : Cuts := [(.root, 0), ((.l (.l (.r (.r (.r .root))))), 1)]
noncomputable def d136 : Code := Option.rec .skip (fun c => c) Go.Proofs.Tryz.f136.body
noncomputable def q136 : Plans := []
structure J136 where
  a0 : AV → Int → AV → H → Prop
  a1 : AV → H → Prop
noncomputable def s136_0 (c : Caller Prop FT) (_k : KV) (J : J136) (v_0 : AV) (n_1 : Int) (v_2 : AV) (h : H) : Prop :=
 asG v_2 fun g1 =>
 chk (Nat.ble 1 (len g1)) <|
 Hp.newK h (rowOf 45 g1) fun p2 h3 =>
 oK (exNil v_0 h3) fun v4 h5 =>
 fAddr 4 v4 fun v6 =>
 ld1 v6 h5 fun v7 =>
 c (.func 168) [v7, (.int .i64 n_1)] h5 fun v8 h9 =>
 asB v8 fun b10 =>
 cnd (bnot b10)
 (ldn 8 (.ptr p2 0) h9 fun v11 =>
 c (.func 27) [v11] h9 fun v12 h13 =>
 c (.func 142) [v_0, (.int .i64 (Int.ofNat 18)), v12] h13 fun _ h15 =>
 oK (exNil v_0 h15) fun v16 h17 =>
 fAddr 7 v16 fun v18 =>
 st1 v18 (.bool true) h17 fun h19 =>
 J.a1 v_0 h19)
 (J.a1 v_0 h9)
noncomputable def s136_1 (_c : Caller Prop FT) (k : KV) (_J : J136) (v_0 : AV) (h : H) : Prop :=
 oK (exNil v_0 h) fun v20 h21 =>
 fAddr 7 v20 fun v22 =>
 ld1 v22 h21 fun v23 =>
 asB v23 fun b24 =>
 k (.bool (bnot b24)) h21
noncomputable def z136 : J136 := ⟨fun _ _ _ _ => False, fun _ _ => False⟩
noncomputable def r136 (c : Caller Prop FT) (k : KV) (m : Nat) : J136 := Nat.rec z136 (fun _ J => ⟨s136_0 c k J, s136_1 c k J⟩) m
noncomputable def f136 (J : J136) : Jump := fun L f h => match L with
  | 0 => asI .i64 (f 1) fun n_1 => J.a0 (f 0) n_1 (f 2) h
  | 1 => J.a1 (f 0) h
  | _ => False
noncomputable def u136 : Cuts := [(.root, 0), ((.r (.r .root)), 1)]
noncomputable def d137 : Code := Option.rec .skip (fun c => c) Go.Proofs.Tryz.f137.body
noncomputable def q137 : Plans := []
noncomputable def u137 : Cuts := [(.root, 0)]
noncomputable def d138 : Code := Option.rec .skip (fun c => c) Go.Proofs.Tryz.f138.body
noncomputable def q138 : Plans := []
noncomputable def u138 : Cuts := [(.root, 0), ((.l (.r (.l (.r (.r .root))))), 1)]
noncomputable def d139 : Code := Option.rec .skip (fun c => c) Go.Proofs.Tryz.f139.body
noncomputable def q139 : Plans := []
noncomputable def u139 : Cuts := [(.root, 0)]
noncomputable def d140 : Code := Option.rec .skip (fun c => c) Go.Proofs.Tryz.f140.body
noncomputable def q140 : Plans := []
structure J140 where
  a0 : Int → AV → H → Prop
  a1 : Int → AV → AV → Int → Int → Int → H → Prop
  a2 : Int → AV → AV → Int → Int → Int → H → Prop
noncomputable def s140_0 (c : Caller Prop FT) (k : KV) (J : J140) (n_0 : Int) (v_1 : AV) (h : H) : Prop :=
 joinB (fun k1 => gate false (ibeq n_0 (Int.ofNat 0))
 (callV (CP env) c v_1 [(.int .i64 (Int.ofNat 0))] h fun v4 h5 =>
 c (.func 104) [v4, (.str 1 40)] h5 fun v6 h7 =>
 asB v6 fun b8 =>
 k1 (bnot b8) h7)
 (k1 true h)) fun b3 h2 =>
 cnd b3
 (k (.tuple [.nils, (.int .i64 (Int.ofNat 0))]) h2)
 (J.a1 n_0 v_1 .nils (Int.ofNat 1) (Int.ofNat 1) (Int.ofNat 1) h2)
noncomputable def s140_1 (c : Caller Prop FT) (k : KV) (J : J140) (n_0 : Int) (v_1 : AV) (v_4 : AV) (n_6 : Int) (n_7 : Int) (n_8 : Int) (h : H) : Prop :=
 cnd (iblt n_8 n_0)
 (callV (CP env) c v_1 [(.int .i64 n_8)] h fun v9 h10 =>
 Hp.newK h10 ob45 fun p11 h12 =>
 stn 8 (.ptr p11 0) v9 h12 fun h13 =>
 ldn 8 (.ptr p11 0) h13 fun v14 =>
 c (.func 104) [v14, (.str 1 40)] h13 fun v15 h16 =>
 asB v15 fun b17 =>
 cnd b17
 (fI (wrap .i64 (iadd n_6 (Int.ofNat 1))) fun n18 =>
 J.a2 n_0 v_1 v_4 n18 n_7 n_8 h16)
 (ldn 8 (.ptr p11 0) h16 fun v19 =>
 c (.func 104) [v19, (.str 1 41)] h16 fun v20 h21 =>
 asB v20 fun b22 =>
 cnd b22
 (fI (wrap .i64 (isub n_6 (Int.ofNat 1))) fun n23 =>
 cnd (ibeq n23 (Int.ofNat 0))
 (oK (exBuild env (env.ty 273) [(0, (.int .i64 n_7)), (1, (.int .i64 n_8))] h21) fun v24 h25 =>
 oK (withElem env 267 (fun e ei => exBuildSlice 1 [(0, v24)] h25 e ei)) fun v26 h27 =>
 oK (builtinA env .append [267, 267] [v_4, v26] h27) fun v28 h29 =>
 fI (wrap .i64 (iadd n_8 (Int.ofNat 1))) fun n30 =>
 k (.tuple [v28, (.int .i64 n30)]) h29)
 (J.a2 n_0 v_1 v_4 n23 n_7 n_8 h21))
 (ldn 8 (.ptr p11 0) h21 fun v31 =>
 c (.func 104) [v31, (.str 1 44)] h21 fun v32 h33 =>
 asB v32 fun b34 =>
 joinB (fun k35 => gate true b34
 (k35 (ibeq n_6 (Int.ofNat 1)) h33)
 (k35 false h33)) fun b37 h36 =>
 cnd b37
 (oK (exBuild env (env.ty 273) [(0, (.int .i64 n_7)), (1, (.int .i64 n_8))] h36) fun v38 h39 =>
 oK (withElem env 267 (fun e ei => exBuildSlice 1 [(0, v38)] h39 e ei)) fun v40 h41 =>
 oK (builtinA env .append [267, 267] [v_4, v40] h41) fun v42 h43 =>
 fI (wrap .i64 (iadd n_8 (Int.ofNat 1))) fun n44 =>
 J.a2 n_0 v_1 v42 n_6 n44 n_8 h43)
 (J.a2 n_0 v_1 v_4 n_6 n_7 n_8 h36))))
 (k (.tuple [.nils, (.int .i64 (Int.ofNat 0))]) h)
noncomputable def s140_2 (_c : Caller Prop FT) (_k : KV) (J : J140) (n_0 : Int) (v_1 : AV) (v_4 : AV) (n_6 : Int) (n_7 : Int) (n_8 : Int) (h : H) : Prop :=
 fI (wrap .i64 (iadd n_8 (Int.ofNat 1))) fun n45 =>
 J.a1 n_0 v_1 v_4 n_6 n_7 n45 h
noncomputable def z140 : J140 := ⟨fun _ _ _ => False, fun _ _ _ _ _ _ _ => False, fun _ _ _ _ _ _ _ => False⟩
noncomputable def r140 (c : Caller Prop FT) (k : KV) (m : Nat) : J140 := Nat.rec z140 (fun _ J => ⟨s140_0 c k J, s140_1 c k J, s140_2 c k J⟩) m
noncomputable def f140 (J : J140) : Jump := fun L f h => match L with
  | 0 => asI .i64 (f 0) fun n_0 => J.a0 n_0 (f 1) h
  | 1 => asI .i64 (f 0) fun n_0 => asI .i64 (f 6) fun n_6 => asI .i64 (f 7) fun n_7 => asI .i64 (f 8) fun n_8 => J.a1 n_0 (f 1) (f 4) n_6 n_7 n_8 h
  | 2 => asI .i64 (f 0) fun n_0 => asI .i64 (f 6) fun n_6 => asI .i64 (f 7) fun n_7 => asI .i64 (f 8) fun n_8 => J.a2 n_0 (f 1) (f 4) n_6 n_7 n_8 h
  | _ => False
noncomputable def u140 : Cuts := [(.root, 0), ((.l (.r (.l (.r (.r (.r .root)))))), 1), ((.r (.r (.l (.l (.r (.l (.r (.r (.r .root))))))))), 2)]
noncomputable def d141 : Code := Option.rec .skip (fun c => c) Go.Proofs.Tryz.f141.body
noncomputable def q141 : Plans := []
structure J141 where
  a0 : Int → AV → H → Prop
noncomputable def s141_0 (c : Caller Prop FT) (k : KV) (_J : J141) (n_0 : Int) (v_1 : AV) (h : H) : Prop :=
 Hp.newK h ob45 fun p1 h2 =>
 ld1 v_1 h2 fun v3 =>
 c (.func 77) [v3, (.int .i64 n_0)] h2 fun v4 h5 =>
 fldn 0 8 v4 fun v6 =>
 stn 8 (.ptr p1 0) v6 h5 fun h7 =>
 ldn 8 (.ptr p1 0) h7 fun v8 =>
 k v8 h7
noncomputable def z141 : J141 := ⟨fun _ _ _ => False⟩
noncomputable def r141 (c : Caller Prop FT) (k : KV) (m : Nat) : J141 := Nat.rec z141 (fun _ J => ⟨s141_0 c k J⟩) m
noncomputable def f141 (J : J141) : Jump := fun L f h => match L with
  | 0 => asI .i64 (f 0) fun n_0 => J.a0 n_0 (f 1) h
  | _ => False
noncomputable def u141 : Cuts := [(.root, 0)]
noncomputable def d142 : Code := Option.rec .skip (fun c => c) Go.Proofs.Tryz.f142.body
noncomputable def q142 : Plans := [(1, [0, 1, 2, 3, 4, 5, 6, 7, 8, 9, 10, 11, 12])]
noncomputable def u142 : Cuts := [(.root, 0)]
noncomputable def d143 : Code := Option.rec .skip (fun c => c) Go.Proofs.Tryz.f143.body
noncomputable def q143 : Plans := []
structure J143 where
  a0 : AV → Int → Bool → H → Prop
noncomputable def s143_0 (_c : Caller Prop FT) (k : KV) (_J : J143) (v_0 : AV) (n_1 : Int) (b_2 : Bool) (h : H) : Prop :=
 asG v_0 fun g1 =>
 chk (Nat.ble 1 (len g1)) <|
 Hp.newK h (rowOf 234 g1) fun p2 h3 =>
 fAddr 3 (.ptr p2 0) fun v4 =>
 ld1 v4 h3 fun v5 =>
 lenV v5 fun m6 =>
 cnd (ibeq (Int.ofNat m6) (Int.ofNat 0))
 (joinB (fun k7 => gate true (ibeq n_1 (Int.ofNat 1))
 (k7 b_2 h3)
 (k7 false h3)) fun b9 h8 =>
 k (.tuple [(.int .i64 (Int.ofNat 0)), (.bool b9)]) h8)
 (fAddr 2 (.ptr p2 0) fun v10 =>
 ld1 v10 h3 fun v11 =>
 asB v11 fun b12 =>
 cnd b12
 (fI (wrap .i64 (isub (Int.ofNat m6) (Int.ofNat 1))) fun n13 =>
 fI (wrap .i64 (isub (Int.ofNat m6) (Int.ofNat 1))) fun n14 =>
 k (.tuple [(.int .i64 n13), (.bool (ible n14 n_1))]) h3)
 (k (.tuple [(.int .i64 (Int.ofNat m6)), (.bool (ibeq n_1 (Int.ofNat m6)))]) h3))
noncomputable def z143 : J143 := ⟨fun _ _ _ _ => False⟩
noncomputable def r143 (c : Caller Prop FT) (k : KV) (m : Nat) : J143 := Nat.rec z143 (fun _ J => ⟨s143_0 c k J⟩) m
noncomputable def f143 (J : J143) : Jump := fun L f h => match L with
  | 0 => asI .i64 (f 1) fun n_1 => asB (f 2) fun b_2 => J.a0 (f 0) n_1 b_2 h
  | _ => False
noncomputable def u143 : Cuts := [(.root, 0)]
noncomputable def d144 : Code := Option.rec .skip (fun c => c) Go.Proofs.Tryz.f144.body
noncomputable def q144 : Plans := [(11, [0, 1, 2, 3, 4, 5, 6, 7, 8]), (15, [0, 1, 2, 3, 4, 5, 6, 7, 8])]
noncomputable def u144 : Cuts := [(.root, 0), ((.r (.l (.r (.r (.r (.r (.r (.r (.r (.r .root)))))))))), 1)]
noncomputable def d145 : Code := Option.rec .skip (fun c => c) Go.Proofs.Tryz.f145.body
noncomputable def q145 : Plans := [(2, [0, 1, 2, 3, 4, 5, 6, 7, 8, 9, 10, 11, 12, 13])]
noncomputable def u145 : Cuts := [(.root, 0)]
noncomputable def d146 : Code := Option.rec .skip (fun c => c) Go.Proofs.Tryz.f146.body
noncomputable def q146 : Plans := []
structure J146 where
  a0 : AV → AV → H → Prop
  a1 : AV → AV → AV → Int → Int → H → Prop
noncomputable def s146_0 (_c : Caller Prop FT) (_k : KV) (J : J146) (v_0 : AV) (v_1 : AV) (h : H) : Prop :=
 lenV v_0 fun m1 =>
 J.a1 v_1 .nils v_0 (Int.ofNat m1) (Int.ofNat 0) h
noncomputable def s146_1 (c : Caller Prop FT) (k : KV) (J : J146) (v_1 : AV) (v_4 : AV) (v_7 : AV) (n_8 : Int) (n_9 : Int) (h : H) : Prop :=
 cnd (iblt n_9 n_8)
 (natI n_9 fun m2 =>
 elemA 1 m2 v_7 fun v3 =>
 ld1 v3 h fun v4 =>
 asS v4 fun l5 c6 =>
 c (.func 100) [v_1, (.str l5 c6)] h fun v7 h8 =>
 asB v7 fun b9 =>
 cnd b9
 (oK (withElem env 34 (fun e ei => exBuildSlice 1 [(0, (.str l5 c6))] h8 e ei)) fun v10 h11 =>
 oK (builtinA env .append [34, 34] [v_4, v10] h11) fun v12 h13 =>
 fI (wrap .i64 (iadd n_9 (Int.ofNat 1))) fun n14 =>
 J.a1 v_1 v12 v_7 n_8 n14 h13)
 (fI (wrap .i64 (iadd n_9 (Int.ofNat 1))) fun n15 =>
 J.a1 v_1 v_4 v_7 n_8 n15 h8))
 (k v_4 h)
noncomputable def z146 : J146 := ⟨fun _ _ _ => False, fun _ _ _ _ _ _ => False⟩
noncomputable def r146 (c : Caller Prop FT) (k : KV) (m : Nat) : J146 := Nat.rec z146 (fun _ J => ⟨s146_0 c k J, s146_1 c k J⟩) m
noncomputable def f146 (J : J146) : Jump := fun L f h => match L with
  | 0 => J.a0 (f 0) (f 1) h
  | 1 => asI .i64 (f 8) fun n_8 => asI .i64 (f 9) fun n_9 => J.a1 (f 1) (f 4) (f 7) n_8 n_9 h
  | _ => False
noncomputable def u146 : Cuts := [(.root, 0), ((.l (.r (.l (.r .root)))), 1)]
noncomputable def d147 : Code := Option.rec .skip (fun c => c) Go.Proofs.Tryz.f147.body
noncomputable def q147 : Plans := [(2, [0, 1, 2, 3, 4, 5, 6, 7]), (9, [0, 1, 2, 3, 4, 5, 6, 7, 8])]
structure J147 where
  a0 : AV → AV → AV → AV → H → Prop
  a1 : AV → AV → AV → AV → Int → Int → H → Prop
noncomputable def s147_0 (c : Caller Prop FT) (k : KV) (J : J147) (v_0 : AV) (v_1 : AV) (v_2 : AV) (v_3 : AV) (h : H) : Prop :=
 asG v_2 fun g1 =>
 chk (Nat.ble 1 (len g1)) <|
 Hp.newK h (rowOf 136 g1) fun p2 h3 =>
 lenV v_3 fun m4 =>
 oK (withElem env 275 (fun e ei => exMakeSlice (natOf (.int .i64 (Int.ofNat m4))) (natOf (.int .i64 (Int.ofNat m4))) h3 e ei)) fun v5 h6 =>
 oK (exNil v_0 h6) fun v7 h8 =>
 fAddr 0 v7 fun v9 =>
 ld1 v9 h8 fun v10 =>
 fAddr 0 (.ptr p2 0) fun v11 =>
 ldn 8 v11 h8 fun v12 =>
 c (.func 136) [v10, (.int .i64 (Int.ofNat 1)), v12] h8 fun v13 h14 =>
 asB v13 fun b15 =>
 cnd (bnot b15)
 (k v5 h14)
 (oK (exNil v_1 h14) fun v16 h17 =>
 ldn 8 v16 h17 fun v18 =>
 c (.func 189) [v18] h17 fun v19 h20 =>
 ext 0 v19 fun _ =>
 ext 1 v19 fun v22 =>
 lenV v_3 fun m23 =>
 J.a1 v_0 v5 v22 v_3 (Int.ofNat m23) (Int.ofNat 0) h20)
noncomputable def s147_1 (c : Caller Prop FT) (k : KV) (J : J147) (v_0 : AV) (v_9 : AV) (v_11 : AV) (v_34 : AV) (n_35 : Int) (n_36 : Int) (h : H) : Prop :=
 cnd (iblt n_36 n_35)
 (natI n_36 fun m24 =>
 elemA 1 m24 v_34 fun v25 =>
 ld1 v25 h fun v26 =>
 natI n_36 fun m27 =>
 elemA 1 m27 v_11 fun v28 =>
 ld1 v28 h fun v29 =>
 asB v29 fun b30 =>
 joinB (fun k31 => gate true b30
 (oK (exNil v_0 h) fun v34 h35 =>
 fAddr 0 v34 fun v36 =>
 ld1 v36 h35 fun v37 =>
 oK (exNil v37 h35) fun v38 h39 =>
 fAddr 7 v38 fun v40 =>
 ld1 v40 h39 fun v41 =>
 asB v41 fun b42 =>
 k31 (bnot b42) h39)
 (k31 false h)) fun b33 h32 =>
 cnd b33
 (oK (exNil v_0 h32) fun v43 h44 =>
 fAddr 0 v43 fun v45 =>
 ld1 v45 h44 fun v46 =>
 c (.func 190) [v26] h44 fun v47 h48 =>
 ld1 v45 h48 fun v49 =>
 eqC v49 v46 <|
 oK (exBuild env (env.ty 130) [(0, v46), (2, v47)] h48) fun v50 h51 =>
 asG v50 fun g52 =>
 chk (Nat.ble 1 (len g52)) <|
 Hp.newK h51 (rowOf 130 g52) fun p53 h54 =>
 oK (exNil (.ptr p53 0) h54) fun v55 h56 =>
 fAddr 2 v55 fun v57 =>
 ld1 v57 h56 fun v58 =>
 c (.func 191) [v58] h56 fun _ h60 =>
 c (.func 53) [(.ptr p53 0)] h60 fun v61 h62 =>
 natI n_36 fun m63 =>
 elemA 1 m63 v_9 fun v64 =>
 st1 v64 v61 h62 fun h65 =>
 fI (wrap .i64 (iadd n_36 (Int.ofNat 1))) fun n66 =>
 J.a1 v_0 v_9 v_11 v_34 n_35 n66 h65)
 (fI (wrap .i64 (iadd n_36 (Int.ofNat 1))) fun n67 =>
 J.a1 v_0 v_9 v_11 v_34 n_35 n67 h32))
 (k v_9 h)
noncomputable def z147 : J147 := ⟨fun _ _ _ _ _ => False, fun _ _ _ _ _ _ _ => False⟩
noncomputable def r147 (c : Caller Prop FT) (k : KV) (m : Nat) : J147 := Nat.rec z147 (fun _ J => ⟨s147_0 c k J, s147_1 c k J⟩) m
noncomputable def f147 (J : J147) : Jump := fun L f h => match L with
  | 0 => J.a0 (f 0) (f 1) (f 2) (f 3) h
  | 1 => asI .i64 (f 35) fun n_35 => asI .i64 (f 36) fun n_36 => J.a1 (f 0) (f 9) (f 11) (f 34) n_35 n_36 h
  | _ => False
noncomputable def u147 : Cuts := [(.root, 0), ((.l (.r (.l (.r (.r (.r (.r .root))))))), 1)]
noncomputable def d148 : Code := Option.rec .skip (fun c => c) Go.Proofs.Tryz.f148.body
noncomputable def q148 : Plans := []
structure J148 where
  a0 : AV → AV → H → Prop
  a1 : AV → AV → Int → AV → Int → Int → H → Prop
  a2 : AV → AV → Int → AV → Int → Int → AV → Int → Int → H → Prop
noncomputable def s148_0 (_c : Caller Prop FT) (_k : KV) (J : J148) (v_0 : AV) (v_1 : AV) (h : H) : Prop :=
 oK (exNil v_0 h) fun v1 h2 =>
 fAddr 4 v1 fun v3 =>
 ld1 v3 h2 fun v4 =>
 lenV v4 fun m5 =>
 J.a1 v_0 v_1 (Int.ofNat 0) v4 (Int.ofNat m5) (Int.ofNat 0) h2
noncomputable def s148_1 (c : Caller Prop FT) (k : KV) (J : J148) (v_0 : AV) (v_1 : AV) (n_5 : Int) (v_14 : AV) (n_15 : Int) (n_16 : Int) (h : H) : Prop :=
 cnd (iblt n_16 n_15)
 (natI n_16 fun m6 =>
 elemA 8 m6 v_14 fun v7 =>
 ldn 8 v7 h fun v8 =>
 Hp.newK h ob45 fun p9 h10 =>
 stn 8 (.ptr p9 0) v8 h10 fun h11 =>
 ldn 8 (.ptr p9 0) h11 fun v12 =>
 c (.func 192) [v_0, v12] h11 fun v13 h14 =>
 asI .i64 v13 fun n15 =>
 joinB (fun k16 => gate true (ible (Int.ofNat 0) n15)
 (c (.func 193) [v_0, (.int .i64 n_16)] h14 fun v19 h20 =>
 asB v19 fun b21 =>
 k16 b21 h20)
 (k16 false h14)) fun b18 h17 =>
 cnd b18
 (c (.func 194) [v_1, (.int .i64 n15)] h17 fun v22 h23 =>
 lenV v22 fun m24 =>
 J.a2 v_0 v_1 n_5 v_14 n_15 n_16 v22 (Int.ofNat m24) (Int.ofNat 0) h23)
 (fI (wrap .i64 (iadd n_16 (Int.ofNat 1))) fun n25 =>
 J.a1 v_0 v_1 n_5 v_14 n_15 n25 h17))
 (quoI .i64 n_5 (Int.ofNat 256) fun n26 =>
 k (.int .i64 n26) h)
noncomputable def s148_2 (_c : Caller Prop FT) (_k : KV) (J : J148) (v_0 : AV) (v_1 : AV) (n_5 : Int) (v_14 : AV) (n_15 : Int) (n_16 : Int) (v_33 : AV) (n_34 : Int) (n_35 : Int) (h : H) : Prop :=
 cnd (iblt n_35 n_34)
 (natI n_35 fun m27 =>
 elemA 8 m27 v_33 fun v28 =>
 ldn 8 v28 h fun v29 =>
 Hp.newK h ob45 fun p30 h31 =>
 stn 8 (.ptr p30 0) v29 h31 fun h32 =>
 fAddr 1 (.ptr p30 0) fun v33 =>
 ld1 v33 h32 fun v34 =>
 asS v34 fun l35 _ =>
 fI (wrap .i64 (iadd n_5 (Int.ofNat l35))) fun n37 =>
 fI (wrap .i64 (iadd n_35 (Int.ofNat 1))) fun n38 =>
 J.a2 v_0 v_1 n37 v_14 n_15 n_16 v_33 n_34 n38 h32)
 (fI (wrap .i64 (iadd n_16 (Int.ofNat 1))) fun n39 =>
 J.a1 v_0 v_1 n_5 v_14 n_15 n39 h)
noncomputable def z148 : J148 := ⟨fun _ _ _ => False, fun _ _ _ _ _ _ _ => False, fun _ _ _ _ _ _ _ _ _ _ => False⟩
noncomputable def r148 (c : Caller Prop FT) (k : KV) (m : Nat) : J148 := Nat.rec z148 (fun _ J => ⟨s148_0 c k J, s148_1 c k J, s148_2 c k J⟩) m
noncomputable def f148 (J : J148) : Jump := fun L f h => match L with
  | 0 => J.a0 (f 0) (f 1) h
  | 1 => asI .i64 (f 5) fun n_5 => asI .i64 (f 15) fun n_15 => asI .i64 (f 16) fun n_16 => J.a1 (f 0) (f 1) n_5 (f 14) n_15 n_16 h
  | 2 => asI .i64 (f 5) fun n_5 => asI .i64 (f 15) fun n_15 => asI .i64 (f 16) fun n_16 => asI .i64 (f 34) fun n_34 => asI .i64 (f 35) fun n_35 => J.a2 (f 0) (f 1) n_5 (f 14) n_15 n_16 (f 33) n_34 n_35 h
  | _ => False
noncomputable def u148 : Cuts := [(.root, 0), ((.l (.r (.l (.r (.r .root))))), 1), ((.l (.r (.l (.r (.r (.r (.l (.l (.r (.r (.l (.l (.r (.l (.r (.r .root)))))))))))))))), 2)]
noncomputable def d149 : Code := Option.rec .skip (fun c => c) Go.Proofs.Tryz.f149.body
noncomputable def q149 : Plans := []
structure J149 where
  a0 : AV → H → Prop
  a1 : AV → AV → Int → Int → H → Prop
  a2 : AV → AV → AV → Int → Int → AV → Int → Int → H → Prop
noncomputable def s149_0 (_c : Caller Prop FT) (_k : KV) (J : J149) (v_0 : AV) (h : H) : Prop :=
 lenV v_0 fun m1 =>
 J.a1 .nils v_0 (Int.ofNat m1) (Int.ofNat 0) h
noncomputable def s149_1 (_c : Caller Prop FT) (k : KV) (J : J149) (v_2 : AV) (v_8 : AV) (n_9 : Int) (n_10 : Int) (h : H) : Prop :=
 cnd (iblt n_10 n_9)
 (natI n_10 fun m2 =>
 elemA 1 m2 v_8 fun v3 =>
 ld1 v3 h fun v4 =>
 lenV v4 fun m5 =>
 J.a2 v_2 .nils v_8 n_9 n_10 v4 (Int.ofNat m5) (Int.ofNat 0) h)
 (k v_2 h)
noncomputable def s149_2 (_c : Caller Prop FT) (_k : KV) (J : J149) (v_2 : AV) (v_5 : AV) (v_8 : AV) (n_9 : Int) (n_10 : Int) (v_14 : AV) (n_15 : Int) (n_16 : Int) (h : H) : Prop :=
 cnd (iblt n_16 n_15)
 (natI n_16 fun m6 =>
 elemA 9 m6 v_14 fun v7 =>
 ldn 9 v7 h fun v8 =>
 Hp.newK h ob136 fun p9 h10 =>
 stn 9 (.ptr p9 0) v8 h10 fun h11 =>
 fAddr 0 (.ptr p9 0) fun v12 =>
 ldn 8 v12 h11 fun v13 =>
 oK (withElem env 32 (fun e ei => exBuildSlice 1 [(0, v13)] h11 e ei)) fun v14 h15 =>
 oK (builtinA env .append [32, 32] [v_5, v14] h15) fun v16 h17 =>
 fI (wrap .i64 (iadd n_16 (Int.ofNat 1))) fun n18 =>
 J.a2 v_2 v16 v_8 n_9 n_10 v_14 n_15 n18 h17)
 (oK (withElem env 279 (fun e ei => exBuildSlice 1 [(0, v_5)] h e ei)) fun v19 h20 =>
 oK (builtinA env .append [279, 279] [v_2, v19] h20) fun v21 h22 =>
 fI (wrap .i64 (iadd n_10 (Int.ofNat 1))) fun n23 =>
 J.a1 v21 v_8 n_9 n23 h22)
noncomputable def z149 : J149 := ⟨fun _ _ => False, fun _ _ _ _ _ => False, fun _ _ _ _ _ _ _ _ _ => False⟩
noncomputable def r149 (c : Caller Prop FT) (k : KV) (m : Nat) : J149 := Nat.rec z149 (fun _ J => ⟨s149_0 c k J, s149_1 c k J, s149_2 c k J⟩) m
noncomputable def f149 (J : J149) : Jump := fun L f h => match L with
  | 0 => J.a0 (f 0) h
  | 1 => asI .i64 (f 9) fun n_9 => asI .i64 (f 10) fun n_10 => J.a1 (f 2) (f 8) n_9 n_10 h
  | 2 => asI .i64 (f 9) fun n_9 => asI .i64 (f 10) fun n_10 => asI .i64 (f 15) fun n_15 => asI .i64 (f 16) fun n_16 => J.a2 (f 2) (f 5) (f 8) n_9 n_10 (f 14) n_15 n_16 h
  | _ => False
noncomputable def u149 : Cuts := [(.root, 0), ((.l (.r (.l (.r .root)))), 1), ((.l (.r (.l (.r (.r (.l (.l (.r (.r (.l (.l (.r (.l (.r .root)))))))))))))), 2)]
end Go.Den
