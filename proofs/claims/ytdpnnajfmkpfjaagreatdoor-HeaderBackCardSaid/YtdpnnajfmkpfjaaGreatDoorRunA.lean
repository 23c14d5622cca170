/-
  A part of the proof: the functions, in pieces.
-/
import Derived.Test.YtdpnnajfmkpfjaaGreatDoorDenQ
import Derived.Test.YtdpnnajfmkpfjaaGreatDoorProg
import Derived.KernelRfl
namespace Go.Den
set_option maxRecDepth 100000
theorem fset_self {f : FT} {d : Nat} {v : AV} (h : f d = v) : fset f d v = f := by
  funext u
  rw [fset_eq]
  by_cases e : u = d
  · rw [if_pos e, ← h, e]
  · rw [if_neg e]
noncomputable def env : Env := envOf Go.Proofs.Tryz.prog []
def G : Nat := 9
theorem mixed : Go.Proofs.Tryz.prog.follows .mixedOrders = true := by kernel_rfl
theorem envOk : EnvOk Go.Proofs.Tryz.prog env := envOk_of (by kernel_rfl)

noncomputable def ob24 : Ob FT := rowOf 24 [(.str 0 0), (.bool false)]
noncomputable def ob39 : Ob FT := rowOf 39 [.nilp, .nils]
noncomputable def ob44 : Ob FT := rowOf 44 [(.str 0 0), (.int .i64 (Int.ofNat 0)), (.int .i64 (Int.ofNat 0))]
noncomputable def ob47 : Ob FT := rowOf 47 [(.int .i64 (Int.ofNat 0)), (.str 0 0), (.bool false), (.str 0 0), (.int .i64 (Int.ofNat 0)), (.int .i64 (Int.ofNat 0)), (.bool false), .nils]
noncomputable def ob60 : Ob FT := rowOf 60 [.nils, (.int .i64 (Int.ofNat 0)), (.int .i64 (Int.ofNat 0)), (.bool false)]
noncomputable def ob89 : Ob FT := rowOf 89 [(.bool false), (.bool false), (.bool false), (.bool false), (.bool false), (.bool false), (.bool false), (.bool false), (.bool false), (.bool false), (.bool false), (.bool false), (.bool false), (.bool false), (.bool false), (.bool false), (.bool false), (.bool false), (.bool false), (.bool false), (.bool false), (.bool false), (.bool false), (.bool false), (.bool false), (.bool false), (.bool false), (.bool false), (.bool false), (.bool false), (.bool false), (.bool false), (.bool false), (.bool false), (.bool false), (.bool false), (.bool false), (.bool false), (.bool false), (.bool false), (.bool false), (.bool false), (.bool false), (.bool false), (.bool false), (.bool false), (.bool false), (.bool false), (.bool false), (.bool false), (.bool false), (.bool false), (.bool false), (.bool false), (.bool false), (.bool false), (.bool false), (.bool false), (.bool false), (.bool false), (.bool false), (.bool false), (.bool false), (.bool false), (.bool false), (.bool false), (.bool false), (.bool false), (.bool false), (.bool false), (.bool false), (.bool false), (.bool false), (.bool false), (.bool false), (.bool false), (.bool false), (.bool false), (.bool false), (.bool false), (.bool false), (.bool false), (.bool false), (.bool false), (.bool false), (.bool false), (.bool false), (.bool false), (.bool false), (.bool false), (.bool false), (.bool false), (.bool false), (.bool false), (.bool false), (.bool false), (.bool false), (.bool false), (.bool false), (.bool false), (.bool false), (.bool false), (.bool false), (.bool false), (.bool false), (.bool false), (.bool false), (.bool false), (.bool false), (.bool false), (.bool false), (.bool false), (.bool false), (.bool false), (.bool false), (.bool false), (.bool false), (.bool false), (.bool false), (.bool false), (.bool false), (.bool false), (.bool false), (.bool false), (.bool false), (.bool false), (.bool false), (.bool false), (.bool false), (.bool false), (.bool false), (.bool false), (.bool false), (.bool false), (.bool false), (.bool false), (.bool false), (.bool false), (.bool false), (.bool false), (.bool false), (.bool false), (.bool false), (.bool false), (.bool false), (.bool false), (.bool false), (.bool false), (.bool false), (.bool false), (.bool false), (.bool false), (.bool false), (.bool false), (.bool false), (.bool false), (.bool false), (.bool false), (.bool false), (.bool false), (.bool false), (.bool false), (.bool false), (.bool false), (.bool false), (.bool false), (.bool false), (.bool false), (.bool false), (.bool false), (.bool false), (.bool false), (.bool false), (.bool false), (.bool false), (.bool false), (.bool false), (.bool false), (.bool false), (.bool false), (.bool false), (.bool false), (.bool false), (.bool false), (.bool false), (.bool false), (.bool false), (.bool false), (.bool false), (.bool false), (.bool false), (.bool false), (.bool false), (.bool false), (.bool false), (.bool false), (.bool false), (.bool false), (.bool false), (.bool false), (.bool false), (.bool false), (.bool false), (.bool false), (.bool false), (.bool false), (.bool false), (.bool false), (.bool false), (.bool false), (.bool false), (.bool false), (.bool false), (.bool false), (.bool false), (.bool false), (.bool false), (.bool false), (.bool false), (.bool false), (.bool false), (.bool false), (.bool false), (.bool false), (.bool false), (.bool false), (.bool false), (.bool false), (.bool false), (.bool false), (.bool false), (.bool false), (.bool false), (.bool false), (.bool false), (.bool false), (.bool false), (.bool false), (.bool false), (.bool false), (.bool false), (.bool false), (.bool false), (.bool false), (.bool false), (.bool false), (.bool false), (.bool false), (.bool false), (.bool false), (.bool false), (.bool false), (.bool false), (.bool false), (.bool false), (.bool false)]
noncomputable def ob127 : Ob FT := rowOf 127 [(.int .u8 (Int.ofNat 0)), (.int .u8 (Int.ofNat 0))]
noncomputable def ob144 : Ob FT := rowOf 144 [(.int .u8 (Int.ofNat 0)), (.int .u8 (Int.ofNat 0)), (.int .u8 (Int.ofNat 0)), (.int .u8 (Int.ofNat 0)), (.int .u8 (Int.ofNat 0)), (.int .u8 (Int.ofNat 0)), (.int .u8 (Int.ofNat 0)), (.int .u8 (Int.ofNat 0)), (.int .u8 (Int.ofNat 0)), (.int .u8 (Int.ofNat 0)), (.int .u8 (Int.ofNat 0)), (.int .u8 (Int.ofNat 0)), (.int .u8 (Int.ofNat 0)), (.int .u8 (Int.ofNat 0)), (.int .u8 (Int.ofNat 0)), (.int .u8 (Int.ofNat 0)), (.int .u8 (Int.ofNat 0)), (.int .u8 (Int.ofNat 0)), (.int .u8 (Int.ofNat 0)), (.int .u8 (Int.ofNat 0)), (.int .u8 (Int.ofNat 0)), (.int .u8 (Int.ofNat 0)), (.int .u8 (Int.ofNat 0)), (.int .u8 (Int.ofNat 0))]
noncomputable def ob155 : Ob FT := rowOf 155 [(.int .u8 (Int.ofNat 0)), (.int .u8 (Int.ofNat 0)), (.int .u8 (Int.ofNat 0)), (.int .u8 (Int.ofNat 0)), (.int .u8 (Int.ofNat 0)), (.int .u8 (Int.ofNat 0)), (.int .u8 (Int.ofNat 0)), (.int .u8 (Int.ofNat 0)), (.int .u8 (Int.ofNat 0)), (.int .u8 (Int.ofNat 0)), (.int .u8 (Int.ofNat 0)), (.int .u8 (Int.ofNat 0)), (.int .u8 (Int.ofNat 0)), (.int .u8 (Int.ofNat 0)), (.int .u8 (Int.ofNat 0)), (.int .u8 (Int.ofNat 0)), (.int .u8 (Int.ofNat 0)), (.int .u8 (Int.ofNat 0)), (.int .u8 (Int.ofNat 0)), (.int .u8 (Int.ofNat 0)), (.int .u8 (Int.ofNat 0)), (.int .u8 (Int.ofNat 0)), (.int .u8 (Int.ofNat 0)), (.int .u8 (Int.ofNat 0)), (.int .u8 (Int.ofNat 0)), (.int .u8 (Int.ofNat 0)), (.int .u8 (Int.ofNat 0)), (.int .u8 (Int.ofNat 0)), (.int .u8 (Int.ofNat 0)), (.int .u8 (Int.ofNat 0)), (.int .u8 (Int.ofNat 0)), (.int .u8 (Int.ofNat 0)), (.int .u8 (Int.ofNat 0)), (.int .u8 (Int.ofNat 0)), (.int .u8 (Int.ofNat 0)), (.int .u8 (Int.ofNat 0)), (.int .u8 (Int.ofNat 0)), (.int .u8 (Int.ofNat 0)), (.int .u8 (Int.ofNat 0)), (.int .u8 (Int.ofNat 0)), (.int .u8 (Int.ofNat 0)), (.int .u8 (Int.ofNat 0)), (.int .u8 (Int.ofNat 0)), (.int .u8 (Int.ofNat 0)), (.int .u8 (Int.ofNat 0)), (.int .u8 (Int.ofNat 0)), (.int .u8 (Int.ofNat 0)), (.int .u8 (Int.ofNat 0)), (.int .u8 (Int.ofNat 0)), (.int .u8 (Int.ofNat 0)), (.int .u8 (Int.ofNat 0)), (.int .u8 (Int.ofNat 0)), (.int .u8 (Int.ofNat 0)), (.int .u8 (Int.ofNat 0)), (.int .u8 (Int.ofNat 0)), (.int .u8 (Int.ofNat 0)), (.int .u8 (Int.ofNat 0)), (.int .u8 (Int.ofNat 0)), (.int .u8 (Int.ofNat 0)), (.int .u8 (Int.ofNat 0)), (.int .u8 (Int.ofNat 0)), (.int .u8 (Int.ofNat 0)), (.int .u8 (Int.ofNat 0)), (.int .u8 (Int.ofNat 0)), (.int .u8 (Int.ofNat 0))]

/- gosem.cut.init -/
structure J2 where
  a0 : H → Prop
noncomputable def s2_0 (c : Caller Prop FT) (k : KV) (_J : J2) (h : H) : Prop :=
 c (.func 1) [] h fun _ h2 =>
 k (.tuple []) h2
noncomputable def z2 : J2 := ⟨fun _ => False⟩
noncomputable def r2 (c : Caller Prop FT) (k : KV) (m : Nat) : J2 := Nat.rec z2 (fun _ J => ⟨s2_0 c k J⟩) m
noncomputable def f2 (J : J2) : Jump := fun L f h => match L with
  | 0 => J.a0 h
  | _ => False
noncomputable def d2 : Code := Option.rec .skip (fun c => c) Go.Proofs.Tryz.f2.body
noncomputable def q2 : Plans := []
noncomputable def u2 : Cuts := [(.root, 0)]
/- oxbow/oxbowlaw15.HeaderBack -/
structure J3 where
  a0 : Nat → Nat → Int → H → Prop
  a1 : Nat → Nat → Int → Int → H → Prop
  a2 : Nat → Nat → Int → Int → Bool → H → Prop
  a3 : Nat → Nat → Int → AV → Bool → AV → Bool → Bool → Bool → Int → Nat → Nat → Bool → Bool → H → Prop
noncomputable def s3_0 (c : Caller Prop FT) (k : KV) (J : J3) (l_0 : Nat) (c_0 : Nat) (n_1 : Int) (h : H) : Prop :=
 joinB (fun k1 => gate false (strEq l_0 c_0 0 0)
 (k1 (iblt (Int.ofNat 60) (Int.ofNat l_0)) h)
 (k1 true h)) fun b3 h2 =>
 joinB (fun k4 => gate false b3
 (fI (wrap .i64 (isub (Int.ofNat l_0) (Int.ofNat 1))) fun n7 =>
 natI n7 fun m8 =>
 idxS l_0 c_0 m8 fun m9 =>
 k4 (ibeq (Int.ofNat m9) (Int.ofNat 45)) h2)
 (k4 true h2)) fun b6 h5 =>
 cnd b6
 (c (.func 5) [] h5 fun v10 h11 =>
 asB v10 fun b12 =>
 k (.bool b12) h11)
 (J.a1 l_0 c_0 n_1 (Int.ofNat 0) h5)
noncomputable def s3_1 (c : Caller Prop FT) (_k : KV) (J : J3) (l_0 : Nat) (c_0 : Nat) (n_1 : Int) (n_5 : Int) (h : H) : Prop :=
 cnd (iblt n_5 (Int.ofNat l_0))
 (natI n_5 fun m13 =>
 idxS l_0 c_0 m13 fun m14 =>
 joinB (fun k15 => gate false (iblt (Int.ofNat m14) (Int.ofNat 97))
 (k15 (iblt (Int.ofNat 122) (Int.ofNat m14)) h)
 (k15 true h)) fun b17 h16 =>
 joinB (fun k18 => gate true b17
 (joinB (fun k21 => gate false (iblt (Int.ofNat m14) (Int.ofNat 65))
 (k21 (iblt (Int.ofNat 90) (Int.ofNat m14)) h16)
 (k21 true h16)) fun b23 h22 =>
 k18 b23 h22)
 (k18 false h16)) fun b20 h19 =>
 joinB (fun k24 => gate true b20
 (joinB (fun k27 => gate false (iblt (Int.ofNat m14) (Int.ofNat 48))
 (k27 (iblt (Int.ofNat 57) (Int.ofNat m14)) h19)
 (k27 true h19)) fun b29 h28 =>
 k24 b29 h28)
 (k24 false h19)) fun b26 h25 =>
 joinB (fun k30 => gate true b26
 (k30 (bnot (ibeq (Int.ofNat m14) (Int.ofNat 46))) h25)
 (k30 false h25)) fun b32 h31 =>
 joinB (fun k33 => gate true b32
 (k33 (bnot (ibeq (Int.ofNat m14) (Int.ofNat 45))) h31)
 (k33 false h31)) fun b35 h34 =>
 joinB (fun k36 => gate true b35
 (k36 (bnot (ibeq (Int.ofNat m14) (Int.ofNat 95))) h34)
 (k36 false h34)) fun b38 h37 =>
 joinB (fun k39 => gate true b38
 (joinB (fun k42 => gate false (bnot (ibeq (Int.ofNat m14) (Int.ofNat 47)))
 (joinB (fun k45 => gate true (iblt (Int.ofNat 0) n_5)
 (fI (wrap .i64 (isub n_5 (Int.ofNat 1))) fun n48 =>
 natI n48 fun m49 =>
 idxS l_0 c_0 m49 fun m50 =>
 k45 (ibeq (Int.ofNat m50) (Int.ofNat 47)) h37)
 (k45 false h37)) fun b47 h46 =>
 k42 b47 h46)
 (k42 true h37)) fun b44 h43 =>
 joinB (fun k51 => gate false b44
 (fI (wrap .i64 (iadd n_5 (Int.ofNat 1))) fun n54 =>
 k51 (ibeq n54 (Int.ofNat l_0)) h43)
 (k51 true h43)) fun b53 h52 =>
 k39 b53 h52)
 (k39 false h37)) fun b41 h40 =>
 J.a2 l_0 c_0 n_1 n_5 b41 h40)
 (catS 1 60 l_0 c_0 fun l55 c56 =>
 catS l55 c56 1 62 fun l57 c58 =>
 c (.func 7) [(.str l57 c58)] h fun v59 h60 =>
 c (.func 6) [v59] h60 fun v61 h62 =>
 ext 0 v61 fun v63 =>
 ext 1 v61 fun v64 =>
 asB v64 fun b65 =>
 Hp.newK h62 ob24 fun p66 h67 =>
 stn 2 (.ptr p66 0) v63 h67 fun h68 =>
 catS 1 34 l_0 c_0 fun l69 c70 =>
 catS l69 c70 1 34 fun l71 c72 =>
 c (.func 7) [(.str l71 c72)] h68 fun v73 h74 =>
 c (.func 6) [v73] h74 fun v75 h76 =>
 ext 0 v75 fun v77 =>
 ext 1 v75 fun v78 =>
 asB v78 fun b79 =>
 Hp.newK h76 ob24 fun p80 h81 =>
 stn 2 (.ptr p80 0) v77 h81 fun h82 =>
 catS 1 60 l_0 c_0 fun l83 c84 =>
 catS l83 c84 3 7872574 fun l85 c86 =>
 c (.func 7) [(.str l85 c86)] h82 fun v87 h88 =>
 c (.func 6) [v87] h88 fun v89 h90 =>
 ext 0 v89 fun v91 =>
 ext 1 v89 fun v92 =>
 asB v92 fun b93 =>
 Hp.newK h90 ob24 fun p94 h95 =>
 stn 2 (.ptr p94 0) v91 h95 fun h96 =>
 catS 2 8780 l_0 c_0 fun l97 c98 =>
 catS l97 c98 1 34 fun l99 c100 =>
 c (.func 7) [(.str l99 c100)] h96 fun v101 h102 =>
 c (.func 6) [v101] h102 fun v103 h104 =>
 ext 0 v103 fun v105 =>
 ext 1 v103 fun v106 =>
 asB v106 fun b107 =>
 Hp.newK h104 ob24 fun p108 h109 =>
 stn 2 (.ptr p108 0) v105 h109 fun h110 =>
 c (.func 9) [(.int .i64 n_1)] h110 fun v111 h112 =>
 asS v111 fun l113 c114 =>
 catS l113 c114 2 8736 fun l115 c116 =>
 catS l115 c116 l_0 c_0 fun l117 c118 =>
 catS l117 c118 1 34 fun l119 c120 =>
 c (.func 7) [(.str l119 c120)] h112 fun v121 h122 =>
 c (.func 8) [v121] h122 fun v123 h124 =>
 ext 0 v123 fun v125 =>
 asI .i64 v125 fun n126 =>
 ext 1 v123 fun v127 =>
 asS v127 fun l128 c129 =>
 ext 2 v123 fun v130 =>
 asB v130 fun b131 =>
 ext 3 v123 fun v132 =>
 asB v132 fun b133 =>
 J.a3 l_0 c_0 n_1 (.ptr p66 0) b65 (.ptr p80 0) b79 b93 b107 n126 l128 c129 b131 b133 h124)
noncomputable def s3_2 (c : Caller Prop FT) (k : KV) (J : J3) (l_0 : Nat) (c_0 : Nat) (n_1 : Int) (n_5 : Int) (b_100 : Bool) (h : H) : Prop :=
 cnd b_100
 (c (.func 5) [] h fun v134 h135 =>
 asB v134 fun b136 =>
 k (.bool b136) h135)
 (fI (wrap .i64 (iadd n_5 (Int.ofNat 1))) fun n137 =>
 J.a1 l_0 c_0 n_1 n137 h)
noncomputable def s3_3 (c : Caller Prop FT) (k : KV) (_J : J3) (l_0 : Nat) (c_0 : Nat) (n_1 : Int) (v_7 : AV) (b_8 : Bool) (v_9 : AV) (b_10 : Bool) (b_12 : Bool) (b_14 : Bool) (n_15 : Int) (l_16 : Nat) (c_16 : Nat) (b_17 : Bool) (b_18 : Bool) (h : H) : Prop :=
 joinB (fun k138 => gate true (ible (Int.ofNat 1) n_1)
 (k138 (ible n_1 (Int.ofNat 2147483647)) h)
 (k138 false h)) fun b140 h139 =>
 joinB (fun k141 => gate true b_8
 (fAddr 0 v_7 fun v144 =>
 ld1 v144 h139 fun v145 =>
 asS v145 fun l146 c147 =>
 k141 (strEq l146 c147 l_0 c_0) h139)
 (k141 false h139)) fun b143 h142 =>
 joinB (fun k148 => gate true b143
 (fAddr 1 v_7 fun v151 =>
 ld1 v151 h142 fun v152 =>
 asB v152 fun b153 =>
 k148 (bnot b153) h142)
 (k148 false h142)) fun b150 h149 =>
 joinB (fun k154 => gate true b150
 (k154 b_10 h149)
 (k154 false h149)) fun b156 h155 =>
 joinB (fun k157 => gate true b156
 (fAddr 0 v_9 fun v160 =>
 ld1 v160 h155 fun v161 =>
 asS v161 fun l162 c163 =>
 k157 (strEq l162 c163 l_0 c_0) h155)
 (k157 false h155)) fun b159 h158 =>
 joinB (fun k164 => gate true b159
 (fAddr 1 v_9 fun v167 =>
 ld1 v167 h158 fun v168 =>
 asB v168 fun b169 =>
 k164 b169 h158)
 (k164 false h158)) fun b166 h165 =>
 joinB (fun k170 => gate true b166
 (k170 (bnot b_12) h165)
 (k170 false h165)) fun b172 h171 =>
 joinB (fun k173 => gate true b172
 (k173 (bnot b_14) h171)
 (k173 false h171)) fun b175 h174 =>
 joinB (fun k176 => gate true b175
 (oV (binA env .eql 4 (.bool b_18) (.bool b140)) fun v179 =>
 asB v179 fun b180 =>
 k176 b180 h174)
 (k176 false h174)) fun b178 h177 =>
 joinB (fun k181 => gate true b178
 (joinB (fun k184 => gate false (bnot b140)
 (joinB (fun k187 => gate true (ibeq n_15 n_1)
 (k187 (strEq l_16 c_16 l_0 c_0) h177)
 (k187 false h177)) fun b189 h188 =>
 joinB (fun k190 => gate true b189
 (k190 b_17 h188)
 (k190 false h188)) fun b192 h191 =>
 k184 b192 h191)
 (k184 true h177)) fun b186 h185 =>
 k181 b186 h185)
 (k181 false h177)) fun b183 h182 =>
 joinB (fun k193 => gate true b183
 (c (.func 5) [] h182 fun v196 h197 =>
 asB v196 fun b198 =>
 k193 b198 h197)
 (k193 false h182)) fun b195 h194 =>
 k (.bool b195) h194
noncomputable def z3 : J3 := ⟨fun _ _ _ _ => False, fun _ _ _ _ _ => False, fun _ _ _ _ _ _ => False, fun _ _ _ _ _ _ _ _ _ _ _ _ _ _ _ => False⟩
noncomputable def r3 (c : Caller Prop FT) (k : KV) (m : Nat) : J3 := Nat.rec z3 (fun _ J => ⟨s3_0 c k J, s3_1 c k J, s3_2 c k J, s3_3 c k J⟩) m
noncomputable def f3 (J : J3) : Jump := fun L f h => match L with
  | 0 => asS (f 0) fun l_0 c_0 => asI .i64 (f 1) fun n_1 => J.a0 l_0 c_0 n_1 h
  | 1 => asS (f 0) fun l_0 c_0 => asI .i64 (f 1) fun n_1 => asI .i64 (f 5) fun n_5 => J.a1 l_0 c_0 n_1 n_5 h
  | 2 => asS (f 0) fun l_0 c_0 => asI .i64 (f 1) fun n_1 => asI .i64 (f 5) fun n_5 => asB (f 100) fun b_100 => J.a2 l_0 c_0 n_1 n_5 b_100 h
  | 3 => asS (f 0) fun l_0 c_0 => asI .i64 (f 1) fun n_1 => asB (f 8) fun b_8 => asB (f 10) fun b_10 => asB (f 12) fun b_12 => asB (f 14) fun b_14 => asI .i64 (f 15) fun n_15 => asS (f 16) fun l_16 c_16 => asB (f 17) fun b_17 => asB (f 18) fun b_18 => J.a3 l_0 c_0 n_1 (f 7) b_8 (f 9) b_10 b_12 b_14 n_15 l_16 c_16 b_17 b_18 h
  | _ => False
noncomputable def d3 : Code := Option.rec .skip (fun c => c) Go.Proofs.Tryz.f3.body
noncomputable def q3 : Plans := []
noncomputable def u3 : Cuts := [(.root, 0), ((.l (.r (.l (.r (.r .root))))), 1), ((.r (.r (.l (.l (.r (.l (.l (.r (.l (.r (.r .root))))))))))), 2), ((.r (.r (.r (.r (.r (.r (.r (.r .root)))))))), 3)]
/- oxbow/oxbowlaw15.HeaderSpaces -/
structure J4 where
  a0 : AV → Int → H → Prop
  a1 : AV → Int → Nat → Nat → Nat → Nat → Int → H → Prop
  a2 : AV → Int → Nat → Nat → Nat → Nat → Int → Int → H → Prop
  a3 : AV → Int → Nat → Nat → Nat → Nat → Int → H → Prop
noncomputable def s4_0 (c : Caller Prop FT) (k : KV) (J : J4) (v_0 : AV) (n_1 : Int) (h : H) : Prop :=
 lenV v_0 fun m1 =>
 joinB (fun k2 => gate false (ibeq (Int.ofNat m1) (Int.ofNat 0))
 (lenV v_0 fun m5 =>
 k2 (iblt (Int.ofNat 8) (Int.ofNat m5)) h)
 (k2 true h)) fun b4 h3 =>
 cnd b4
 (c (.func 5) [] h3 fun v6 h7 =>
 asB v6 fun b8 =>
 k (.bool b8) h7)
 (J.a1 v_0 n_1 0 0 0 0 (Int.ofNat 0) h3)
noncomputable def s4_1 (c : Caller Prop FT) (k : KV) (J : J4) (v_0 : AV) (n_1 : Int) (l_5 : Nat) (c_5 : Nat) (l_6 : Nat) (c_6 : Nat) (n_7 : Int) (h : H) : Prop :=
 lenV v_0 fun m9 =>
 cnd (iblt n_7 (Int.ofNat m9))
 (J.a2 v_0 n_1 l_5 c_5 l_6 c_6 n_7 (Int.ofNat 0) h)
 (catS 1 60 l_5 c_5 fun l10 c11 =>
 catS l10 c11 1 62 fun l12 c13 =>
 c (.func 7) [(.str l12 c13)] h fun v14 h15 =>
 c (.func 6) [v14] h15 fun v16 h17 =>
 ext 0 v16 fun v18 =>
 ext 1 v16 fun v19 =>
 asB v19 fun b20 =>
 Hp.newK h17 ob24 fun p21 h22 =>
 stn 2 (.ptr p21 0) v18 h22 fun h23 =>
 catS 2 8252 l_5 c_5 fun l24 c25 =>
 catS l24 c25 2 15904 fun l26 c27 =>
 c (.func 7) [(.str l26 c27)] h23 fun v28 h29 =>
 c (.func 6) [v28] h29 fun v30 h31 =>
 ext 0 v30 fun v32 =>
 ext 1 v30 fun v33 =>
 asB v33 fun b34 =>
 Hp.newK h31 ob24 fun p35 h36 =>
 stn 2 (.ptr p35 0) v32 h36 fun h37 =>
 catS 1 34 l_5 c_5 fun l38 c39 =>
 catS l38 c39 1 34 fun l40 c41 =>
 c (.func 7) [(.str l40 c41)] h37 fun v42 h43 =>
 c (.func 6) [v42] h43 fun v44 h45 =>
 ext 0 v44 fun v46 =>
 ext 1 v44 fun v47 =>
 asB v47 fun b48 =>
 Hp.newK h45 ob24 fun p49 h50 =>
 stn 2 (.ptr p49 0) v46 h50 fun h51 =>
 joinB (fun k52 => gate true b20
 (ldn 2 (.ptr p21 0) h51 fun v55 =>
 oK (exBuild env (env.ty 24) [(0, (.str l_6 c_6))] h51) fun v56 h57 =>
 oV (binA env .eql 24 v55 v56) fun v58 =>
 asB v58 fun b59 =>
 k52 b59 h57)
 (k52 false h51)) fun b54 h53 =>
 joinB (fun k60 => gate true b54
 (k60 b34 h53)
 (k60 false h53)) fun b62 h61 =>
 joinB (fun k63 => gate true b62
 (ldn 2 (.ptr p35 0) h61 fun v66 =>
 catS 1 32 l_6 c_6 fun l67 c68 =>
 oK (exBuild env (env.ty 24) [(0, (.str l67 c68))] h61) fun v69 h70 =>
 oV (binA env .eql 24 v66 v69) fun v71 =>
 asB v71 fun b72 =>
 k63 b72 h70)
 (k63 false h61)) fun b65 h64 =>
 joinB (fun k73 => gate true b65
 (k73 b48 h64)
 (k73 false h64)) fun b75 h74 =>
 joinB (fun k76 => gate true b75
 (ldn 2 (.ptr p49 0) h74 fun v79 =>
 oK (exBuild env (env.ty 24) [(0, (.str l_5 c_5)), (1, (.bool true))] h74) fun v80 h81 =>
 oV (binA env .eql 24 v79 v80) fun v82 =>
 asB v82 fun b83 =>
 k76 b83 h81)
 (k76 false h74)) fun b78 h77 =>
 joinB (fun k84 => gate true b78
 (c (.func 5) [] h77 fun v87 h88 =>
 asB v87 fun b89 =>
 k84 b89 h88)
 (k84 false h77)) fun b86 h85 =>
 k (.bool b86) h85)
noncomputable def s4_2 (c : Caller Prop FT) (k : KV) (J : J4) (v_0 : AV) (n_1 : Int) (l_5 : Nat) (c_5 : Nat) (l_6 : Nat) (c_6 : Nat) (n_7 : Int) (n_8 : Int) (h : H) : Prop :=
 natI n_7 fun m90 =>
 elemA 1 m90 v_0 fun v91 =>
 ld1 v91 h fun v92 =>
 asS v92 fun l93 _ =>
 cnd (iblt n_8 (Int.ofNat l93))
 (natI n_7 fun m95 =>
 elemA 1 m95 v_0 fun v96 =>
 ld1 v96 h fun v97 =>
 asS v97 fun l98 c99 =>
 natI n_8 fun m100 =>
 idxS l98 c99 m100 fun m101 =>
 joinB (fun k102 => gate false (iblt (Int.ofNat m101) (Int.ofNat 97))
 (natI n_7 fun m105 =>
 elemA 1 m105 v_0 fun v106 =>
 ld1 v106 h fun v107 =>
 asS v107 fun l108 c109 =>
 natI n_8 fun m110 =>
 idxS l108 c109 m110 fun m111 =>
 k102 (iblt (Int.ofNat 122) (Int.ofNat m111)) h)
 (k102 true h)) fun b104 h103 =>
 cnd b104
 (c (.func 5) [] h103 fun v112 h113 =>
 asB v112 fun b114 =>
 k (.bool b114) h113)
 (fI (wrap .i64 (iadd n_8 (Int.ofNat 1))) fun n115 =>
 J.a2 v_0 n_1 l_5 c_5 l_6 c_6 n_7 n115 h103))
 (natI n_7 fun m116 =>
 elemA 1 m116 v_0 fun v117 =>
 ld1 v117 h fun v118 =>
 asS v118 fun l119 c120 =>
 joinB (fun k121 => gate false (strEq l119 c120 0 0)
 (natI n_7 fun m124 =>
 elemA 1 m124 v_0 fun v125 =>
 ld1 v125 h fun v126 =>
 asS v126 fun l127 _ =>
 k121 (iblt (Int.ofNat 10) (Int.ofNat l127)) h)
 (k121 true h)) fun b123 h122 =>
 cnd b123
 (c (.func 5) [] h122 fun v129 h130 =>
 asB v129 fun b131 =>
 k (.bool b131) h130)
 (cnd (iblt (Int.ofNat 0) n_7)
 (oK (withElem env 33 (fun e ei => exBuildSlice 4 [(0, (.str 1 32)), (1, (.str 2 8224)), (2, (.str 4 791292463)), (3, (.str 1 46))] h122 e ei)) fun v132 h133 =>
 c (.func 10) [(.int .i64 n_1), (.int .i64 (Int.ofNat 4))] h133 fun v134 h135 =>
 asI .i64 v134 fun n136 =>
 natI n136 fun m137 =>
 elemA 1 m137 v132 fun v138 =>
 ld1 v138 h135 fun v139 =>
 asS v139 fun l140 c141 =>
 catS l_5 c_5 l140 c141 fun l142 c143 =>
 oK (withElem env 33 (fun e ei => exBuildSlice 4 [(0, (.str 1 32)), (1, (.str 1 32)), (2, (.str 1 32)), (3, (.str 1 46))] h135 e ei)) fun v144 h145 =>
 c (.func 10) [(.int .i64 n_1), (.int .i64 (Int.ofNat 4))] h145 fun v146 h147 =>
 asI .i64 v146 fun n148 =>
 natI n148 fun m149 =>
 elemA 1 m149 v144 fun v150 =>
 ld1 v150 h147 fun v151 =>
 asS v151 fun l152 c153 =>
 catS l_6 c_6 l152 c153 fun l154 c155 =>
 J.a3 v_0 n_1 l142 c143 l154 c155 n_7 h147)
 (J.a3 v_0 n_1 l_5 c_5 l_6 c_6 n_7 h122)))
noncomputable def s4_3 (_c : Caller Prop FT) (_k : KV) (J : J4) (v_0 : AV) (n_1 : Int) (l_5 : Nat) (c_5 : Nat) (l_6 : Nat) (c_6 : Nat) (n_7 : Int) (h : H) : Prop :=
 natI n_7 fun m156 =>
 elemA 1 m156 v_0 fun v157 =>
 ld1 v157 h fun v158 =>
 asS v158 fun l159 c160 =>
 catS l_5 c_5 l159 c160 fun l161 c162 =>
 natI n_7 fun m163 =>
 elemA 1 m163 v_0 fun v164 =>
 ld1 v164 h fun v165 =>
 asS v165 fun l166 c167 =>
 catS l_6 c_6 l166 c167 fun l168 c169 =>
 fI (wrap .i64 (iadd n_7 (Int.ofNat 1))) fun n170 =>
 J.a1 v_0 n_1 l161 c162 l168 c169 n170 h
noncomputable def z4 : J4 := ⟨fun _ _ _ => False, fun _ _ _ _ _ _ _ _ => False, fun _ _ _ _ _ _ _ _ _ => False, fun _ _ _ _ _ _ _ _ => False⟩
noncomputable def r4 (c : Caller Prop FT) (k : KV) (m : Nat) : J4 := Nat.rec z4 (fun _ J => ⟨s4_0 c k J, s4_1 c k J, s4_2 c k J, s4_3 c k J⟩) m
noncomputable def f4 (J : J4) : Jump := fun L f h => match L with
  | 0 => asI .i64 (f 1) fun n_1 => J.a0 (f 0) n_1 h
  | 1 => asI .i64 (f 1) fun n_1 => asS (f 5) fun l_5 c_5 => asS (f 6) fun l_6 c_6 => asI .i64 (f 7) fun n_7 => J.a1 (f 0) n_1 l_5 c_5 l_6 c_6 n_7 h
  | 2 => asI .i64 (f 1) fun n_1 => asS (f 5) fun l_5 c_5 => asS (f 6) fun l_6 c_6 => asI .i64 (f 7) fun n_7 => asI .i64 (f 8) fun n_8 => J.a2 (f 0) n_1 l_5 c_5 l_6 c_6 n_7 n_8 h
  | 3 => asI .i64 (f 1) fun n_1 => asS (f 5) fun l_5 c_5 => asS (f 6) fun l_6 c_6 => asI .i64 (f 7) fun n_7 => J.a3 (f 0) n_1 l_5 c_5 l_6 c_6 n_7 h
  | _ => False
noncomputable def d4 : Code := Option.rec .skip (fun c => c) Go.Proofs.Tryz.f4.body
noncomputable def q4 : Plans := []
noncomputable def u4 : Cuts := [(.root, 0), ((.l (.r (.l (.r (.r (.r .root)))))), 1), ((.l (.r (.l (.l (.l (.r (.l (.l (.r (.l (.r (.r (.r .root))))))))))))), 2), ((.r (.r (.r (.l (.l (.r (.l (.l (.r (.l (.r (.r (.r .root))))))))))))), 3)]
/- oxbow/oxbowlaw15.awake -/
structure J5 where
  a0 : H → Prop
noncomputable def s5_0 (c : Caller Prop FT) (k : KV) (_J : J5) (h : H) : Prop :=
 c (.func 7) [(.str 7 17565996981117244)] h fun v1 h2 =>
 c (.func 6) [v1] h2 fun v3 h4 =>
 ext 0 v3 fun v5 =>
 ext 1 v3 fun v6 =>
 asB v6 fun b7 =>
 Hp.newK h4 ob24 fun p8 h9 =>
 stn 2 (.ptr p8 0) v5 h9 fun h10 =>
 c (.func 7) [(.str 5 147776758562)] h10 fun v11 h12 =>
 c (.func 6) [v11] h12 fun v13 h14 =>
 ext 0 v13 fun v15 =>
 ext 1 v13 fun v16 =>
 asB v16 fun b17 =>
 Hp.newK h14 ob24 fun p18 h19 =>
 stn 2 (.ptr p18 0) v15 h19 fun h20 =>
 c (.func 7) [(.str 2 15932)] h20 fun v21 h22 =>
 c (.func 6) [v21] h22 fun v23 h24 =>
 ext 0 v23 fun v25 =>
 ext 1 v23 fun v26 =>
 asB v26 fun b27 =>
 Hp.newK h24 ob24 fun p28 h29 =>
 stn 2 (.ptr p28 0) v25 h29 fun h30 =>
 c (.func 7) [(.str 5 148044390453)] h30 fun v31 h32 =>
 c (.func 8) [v31] h32 fun v33 h34 =>
 ext 0 v33 fun v35 =>
 asI .i64 v35 fun n36 =>
 ext 1 v33 fun v37 =>
 asS v37 fun l38 c39 =>
 ext 2 v33 fun v40 =>
 asB v40 fun b41 =>
 ext 3 v33 fun v42 =>
 asB v42 fun b43 =>
 c (.func 7) [(.str 1 48)] h34 fun v44 h45 =>
 c (.func 8) [v44] h45 fun v46 h47 =>
 ext 0 v46 fun v48 =>
 asI .i64 v48 fun _ =>
 ext 1 v46 fun v50 =>
 asS v50 fun _ _ =>
 ext 2 v46 fun v53 =>
 asB v53 fun _ =>
 ext 3 v46 fun v55 =>
 asB v55 fun b56 =>
 ldn 2 (.ptr p8 0) h47 fun v57 =>
 oK (exBuild env (env.ty 24) [(0, (.str 5 447454785377))] h47) fun v58 h59 =>
 oV (binA env .eql 24 v57 v58) fun v60 =>
 asB v60 fun b61 =>
 joinB (fun k62 => gate true b61
 (k62 b7 h59)
 (k62 false h59)) fun b64 h63 =>
 joinB (fun k65 => gate true b64
 (ldn 2 (.ptr p18 0) h63 fun v68 =>
 oK (exBuild env (env.ty 24) [(0, (.str 3 6827619)), (1, (.bool true))] h63) fun v69 h70 =>
 oV (binA env .eql 24 v68 v69) fun v71 =>
 asB v71 fun b72 =>
 k65 b72 h70)
 (k65 false h63)) fun b67 h66 =>
 joinB (fun k73 => gate true b67
 (k73 b17 h66)
 (k73 false h66)) fun b75 h74 =>
 joinB (fun k76 => gate true b75
 (k76 (bnot b27) h74)
 (k76 false h74)) fun b78 h77 =>
 joinB (fun k79 => gate true b78
 (k79 (ibeq n36 (Int.ofNat 5)) h77)
 (k79 false h77)) fun b81 h80 =>
 joinB (fun k82 => gate true b81
 (k82 (strEq l38 c39 1 120) h80)
 (k82 false h80)) fun b84 h83 =>
 joinB (fun k85 => gate true b84
 (k85 b41 h83)
 (k85 false h83)) fun b87 h86 =>
 joinB (fun k88 => gate true b87
 (k88 b43 h86)
 (k88 false h86)) fun b90 h89 =>
 joinB (fun k91 => gate true b90
 (k91 (bnot b56) h89)
 (k91 false h89)) fun b93 h92 =>
 k (.bool b93) h92
noncomputable def z5 : J5 := ⟨fun _ => False⟩
noncomputable def r5 (c : Caller Prop FT) (k : KV) (m : Nat) : J5 := Nat.rec z5 (fun _ J => ⟨s5_0 c k J⟩) m
noncomputable def f5 (J : J5) : Jump := fun L f h => match L with
  | 0 => J.a0 h
  | _ => False
noncomputable def d5 : Code := Option.rec .skip (fun c => c) Go.Proofs.Tryz.f5.body
noncomputable def q5 : Plans := []
noncomputable def u5 : Cuts := [(.root, 0)]
/- oxbow/header.Of -/
structure J6 where
  a0 : AV → H → Prop
  a1 : AV → AV → AV → Int → Int → H → Prop
  a2 : AV → AV → AV → AV → Int → Int → H → Prop
noncomputable def s6_0 (c : Caller Prop FT) (k : KV) (J : J6) (v_0 : AV) (h : H) : Prop :=
 Hp.newK h ob24 fun p1 h2 =>
 Hp.newK h2 ob39 fun p3 h4 =>
 lenV v_0 fun m5 =>
 fI (wrap .i64 (isub (Int.ofNat m5) (Int.ofNat 1))) fun n6 =>
 c (.func 11) [v_0] h4 fun v7 h8 =>
 ext 0 v7 fun v9 =>
 asS v9 fun l10 c11 =>
 ext 1 v7 fun v12 =>
 asB v12 fun b13 =>
 cnd b13
 (cnd (strEq l10 c11 0 0)
 (oK (exBuild env (env.ty 24) [] h8) fun v14 h15 =>
 stn 2 (.ptr p1 0) v14 h15 fun h16 =>
 ldn 2 (.ptr p1 0) h16 fun v17 =>
 k (.tuple [v17, (.bool false)]) h16)
 (oK (exBuild env (env.ty 24) [(0, (.str l10 c11)), (1, (.bool true))] h8) fun v18 h19 =>
 stn 2 (.ptr p1 0) v18 h19 fun h20 =>
 ldn 2 (.ptr p1 0) h20 fun v21 =>
 k (.tuple [v21, (.bool true)]) h20))
 (joinB (fun k22 => gate false (iblt n6 (Int.ofNat 2))
 (elemA 8 0 v_0 fun v25 =>
 ldn 8 v25 h8 fun v26 =>
 c (.func 12) [v26, (.str 1 60)] h8 fun v27 h28 =>
 asB v27 fun b29 =>
 k22 (bnot b29) h28)
 (k22 true h8)) fun b24 h23 =>
 joinB (fun k30 => gate false b24
 (natI n6 fun m33 =>
 elemA 8 m33 v_0 fun v34 =>
 ldn 8 v34 h23 fun v35 =>
 c (.func 12) [v35, (.str 1 62)] h23 fun v36 h37 =>
 asB v36 fun b38 =>
 k30 (bnot b38) h37)
 (k30 true h23)) fun b32 h31 =>
 cnd b32
 (oK (exBuild env (env.ty 24) [] h31) fun v39 h40 =>
 stn 2 (.ptr p1 0) v39 h40 fun h41 =>
 ldn 2 (.ptr p1 0) h41 fun v42 =>
 k (.tuple [v42, (.bool false)]) h41)
 (oK (slice3 env h31 27 v_0 (some (natOf (.int .i64 (Int.ofNat 1)))) (some (natOf (.int .i64 n6))) none) fun v43 h44 =>
 lenV v43 fun m45 =>
 J.a1 (.ptr p1 0) (.ptr p3 0) v43 (Int.ofNat m45) (Int.ofNat 0) h44))
noncomputable def s6_1 (c : Caller Prop FT) (k : KV) (J : J6) (v_2 : AV) (v_4 : AV) (v_44 : AV) (n_45 : Int) (n_46 : Int) (h : H) : Prop :=
 cnd (iblt n_46 n_45)
 (natI n_46 fun m46 =>
 elemA 8 m46 v_44 fun v47 =>
 ldn 8 v47 h fun v48 =>
 Hp.newK h ob47 fun p49 h50 =>
 stn 8 (.ptr p49 0) v48 h50 fun h51 =>
 fAddr 2 (.ptr p49 0) fun v52 =>
 ld1 v52 h51 fun v53 =>
 asB v53 fun b54 =>
 cnd b54
 (c (.func 13) [v_4, (.int .u8 (Int.ofNat 32))] h51 fun _ h56 =>
 J.a2 v_2 v_4 (.ptr p49 0) v_44 n_45 n_46 h56)
 (J.a2 v_2 v_4 (.ptr p49 0) v_44 n_45 n_46 h51))
 (c (.func 15) [v_4] h fun v57 h58 =>
 asI .i64 v57 fun n59 =>
 cnd (ibeq n59 (Int.ofNat 0))
 (oK (exBuild env (env.ty 24) [] h58) fun v60 h61 =>
 stn 2 v_2 v60 h61 fun h62 =>
 ldn 2 v_2 h62 fun v63 =>
 k (.tuple [v63, (.bool false)]) h62)
 (c (.func 16) [v_4] h58 fun v64 h65 =>
 asS v64 fun l66 c67 =>
 oK (exBuild env (env.ty 24) [(0, (.str l66 c67)), (1, (.bool false))] h65) fun v68 h69 =>
 stn 2 v_2 v68 h69 fun h70 =>
 ldn 2 v_2 h70 fun v71 =>
 k (.tuple [v71, (.bool true)]) h70))
noncomputable def s6_2 (c : Caller Prop FT) (_k : KV) (J : J6) (v_2 : AV) (v_4 : AV) (v_9 : AV) (v_44 : AV) (n_45 : Int) (n_46 : Int) (h : H) : Prop :=
 fAddr 1 v_9 fun v72 =>
 ld1 v72 h fun v73 =>
 asS v73 fun l74 c75 =>
 c (.func 14) [v_4, (.str l74 c75)] h fun _ h77 =>
 fI (wrap .i64 (iadd n_46 (Int.ofNat 1))) fun n78 =>
 J.a1 v_2 v_4 v_44 n_45 n78 h77
noncomputable def z6 : J6 := ⟨fun _ _ => False, fun _ _ _ _ _ _ => False, fun _ _ _ _ _ _ _ => False⟩
noncomputable def r6 (c : Caller Prop FT) (k : KV) (m : Nat) : J6 := Nat.rec z6 (fun _ J => ⟨s6_0 c k J, s6_1 c k J, s6_2 c k J⟩) m
noncomputable def f6 (J : J6) : Jump := fun L f h => match L with
  | 0 => J.a0 (f 0) h
  | 1 => asI .i64 (f 45) fun n_45 => asI .i64 (f 46) fun n_46 => J.a1 (f 2) (f 4) (f 44) n_45 n_46 h
  | 2 => asI .i64 (f 45) fun n_45 => asI .i64 (f 46) fun n_46 => J.a2 (f 2) (f 4) (f 9) (f 44) n_45 n_46 h
  | _ => False
noncomputable def d6 : Code := Option.rec .skip (fun c => c) Go.Proofs.Tryz.f6.body
noncomputable def q6 : Plans := []
noncomputable def u6 : Cuts := [(.root, 0), ((.l (.r (.l (.r (.r (.r (.r (.r .root)))))))), 1), ((.r (.r (.l (.l (.r (.r (.l (.l (.r (.l (.r (.r (.r (.r (.r .root))))))))))))))), 2)]
/- oxbow/oxbowlaw15.toks -/
structure J7 where
  a0 : Nat → Nat → H → Prop
noncomputable def s7_0 (c : Caller Prop FT) (k : KV) (_J : J7) (l_0 : Nat) (c_0 : Nat) (h : H) : Prop :=
 c (.func 17) [(.str 1 102), (.str l_0 c_0)] h fun v1 h2 =>
 ext 0 v1 fun v3 =>
 ext 1 v1 fun _ =>
 lenV v3 fun m5 =>
 cnd (ibeq (Int.ofNat m5) (Int.ofNat 0))
 (k .nils h2)
 (elemA 4 0 v3 fun v6 =>
 fAddr 0 v6 fun v7 =>
 ld1 v7 h2 fun v8 =>
 k v8 h2)
noncomputable def z7 : J7 := ⟨fun _ _ _ => False⟩
noncomputable def r7 (c : Caller Prop FT) (k : KV) (m : Nat) : J7 := Nat.rec z7 (fun _ J => ⟨s7_0 c k J⟩) m
noncomputable def f7 (J : J7) : Jump := fun L f h => match L with
  | 0 => asS (f 0) fun l_0 c_0 => J.a0 l_0 c_0 h
  | _ => False
noncomputable def d7 : Code := Option.rec .skip (fun c => c) Go.Proofs.Tryz.f7.body
noncomputable def q7 : Plans := []
noncomputable def u7 : Cuts := [(.root, 0)]
/- oxbow/header.Line -/
structure J8 where
  a0 : AV → H → Prop
  a1 : H → Prop
noncomputable def s8_0 (c : Caller Prop FT) (k : KV) (J : J8) (v_0 : AV) (h : H) : Prop :=
 lenV v_0 fun m1 =>
 joinB (fun k2 => gate false (ibeq (Int.ofNat m1) (Int.ofNat 0))
 (lenV v_0 fun m5 =>
 k2 (iblt (Int.ofNat 2) (Int.ofNat m5)) h)
 (k2 true h)) fun b4 h3 =>
 cnd b4
 (J.a1 h3)
 (elemA 8 0 v_0 fun v6 =>
 ldn 8 v6 h3 fun v7 =>
 c (.func 18) [v7] h3 fun v8 h9 =>
 asI .i64 v8 fun n10 =>
 cnd (ibeq n10 (Int.ofNat 0))
 (J.a1 h9)
 (lenV v_0 fun m11 =>
 cnd (ibeq (Int.ofNat m11) (Int.ofNat 1))
 (k (.tuple [(.int .i64 n10), (.str 0 0), (.bool false), (.bool true)]) h9)
 (elemA 8 1 v_0 fun v12 =>
 fAddr 0 v12 fun v13 =>
 ld1 v13 h9 fun v14 =>
 asI .i64 v14 fun n15 =>
 joinB (fun k16 => gate false (bnot (ibeq n15 (Int.ofNat 4)))
 (elemA 8 1 v_0 fun v19 =>
 fAddr 1 v19 fun v20 =>
 ld1 v20 h9 fun v21 =>
 asS v21 fun l22 c23 =>
 c (.func 19) [(.str l22 c23), (.str 1 34)] h9 fun v24 h25 =>
 asB v24 fun b26 =>
 k16 (bnot b26) h25)
 (k16 true h9)) fun b18 h17 =>
 cnd b18
 (J.a1 h17)
 (elemA 8 1 v_0 fun v27 =>
 fAddr 1 v27 fun v28 =>
 ld1 v28 h17 fun v29 =>
 asS v29 fun l30 c31 =>
 c (.func 20) [(.str l30 c31)] h17 fun v32 h33 =>
 ext 0 v32 fun v34 =>
 asS v34 fun l35 c36 =>
 ext 1 v32 fun v37 =>
 asB v37 fun b38 =>
 cnd b38
 (k (.tuple [(.int .i64 n10), (.str l35 c36), (.bool true), (.bool true)]) h33)
 (k (.tuple [(.int .i64 (Int.ofNat 0)), (.str 0 0), (.bool false), (.bool false)]) h33)))))
noncomputable def s8_1 (_c : Caller Prop FT) (k : KV) (_J : J8) (h : H) : Prop :=
 k (.tuple [(.int .i64 (Int.ofNat 0)), (.str 0 0), (.bool false), (.bool false)]) h
noncomputable def z8 : J8 := ⟨fun _ _ => False, fun _ => False⟩
noncomputable def r8 (c : Caller Prop FT) (k : KV) (m : Nat) : J8 := Nat.rec z8 (fun _ J => ⟨s8_0 c k J, s8_1 c k J⟩) m
noncomputable def f8 (J : J8) : Jump := fun L f h => match L with
  | 0 => J.a0 (f 0) h
  | 1 => J.a1 h
  | _ => False
noncomputable def d8 : Code := Option.rec .skip (fun c => c) Go.Proofs.Tryz.f8.body
noncomputable def q8 : Plans := []
noncomputable def u8 : Cuts := [(.root, 0), ((.lab (.r .root) 0), 1)]
/- oxbow/oxbowlaw15.digits -/
structure J9 where
  a0 : Int → H → Prop
noncomputable def s9_0 (c : Caller Prop FT) (k : KV) (_J : J9) (n_0 : Int) (h : H) : Prop :=
 c (.func 21) [(.int .i64 n_0)] h fun v1 h2 =>
 asS v1 fun l3 c4 =>
 k (.str l3 c4) h2
noncomputable def z9 : J9 := ⟨fun _ _ => False⟩
noncomputable def r9 (c : Caller Prop FT) (k : KV) (m : Nat) : J9 := Nat.rec z9 (fun _ J => ⟨s9_0 c k J⟩) m
noncomputable def f9 (J : J9) : Jump := fun L f h => match L with
  | 0 => asI .i64 (f 0) fun n_0 => J.a0 n_0 h
  | _ => False
noncomputable def d9 : Code := Option.rec .skip (fun c => c) Go.Proofs.Tryz.f9.body
noncomputable def q9 : Plans := []
noncomputable def u9 : Cuts := [(.root, 0)]
/- oxbow/oxbowalike.Round -/
structure J10 where
  a0 : Int → Int → H → Prop
noncomputable def s10_0 (_c : Caller Prop FT) (k : KV) (_J : J10) (n_0 : Int) (n_1 : Int) (h : H) : Prop :=
 remI n_0 n_1 fun n1 =>
 fI (wrap .i64 (iadd n1 n_1)) fun n2 =>
 remI n2 n_1 fun n3 =>
 k (.int .i64 n3) h
noncomputable def z10 : J10 := ⟨fun _ _ _ => False⟩
noncomputable def r10 (c : Caller Prop FT) (k : KV) (m : Nat) : J10 := Nat.rec z10 (fun _ J => ⟨s10_0 c k J⟩) m
noncomputable def f10 (J : J10) : Jump := fun L f h => match L with
  | 0 => asI .i64 (f 0) fun n_0 => asI .i64 (f 1) fun n_1 => J.a0 n_0 n_1 h
  | _ => False
noncomputable def d10 : Code := Option.rec .skip (fun c => c) Go.Proofs.Tryz.f10.body
noncomputable def q10 : Plans := []
noncomputable def u10 : Cuts := [(.root, 0)]
/- oxbow/header.quoted -/
structure J11 where
  a0 : AV → H → Prop
noncomputable def s11_0 (c : Caller Prop FT) (k : KV) (_J : J11) (v_0 : AV) (h : H) : Prop :=
 lenV v_0 fun m1 =>
 joinB (fun k2 => gate false (bnot (ibeq (Int.ofNat m1) (Int.ofNat 1)))
 (elemA 8 0 v_0 fun v5 =>
 fAddr 0 v5 fun v6 =>
 ld1 v6 h fun v7 =>
 asI .i64 v7 fun n8 =>
 k2 (bnot (ibeq n8 (Int.ofNat 4))) h)
 (k2 true h)) fun b4 h3 =>
 cnd b4
 (k (.tuple [(.str 0 0), (.bool false)]) h3)
 (elemA 8 0 v_0 fun v9 =>
 fAddr 1 v9 fun v10 =>
 ld1 v10 h3 fun v11 =>
 asS v11 fun l12 c13 =>
 c (.func 22) [(.str l12 c13), (.str 1 34)] h3 fun v14 h15 =>
 ext 0 v14 fun v16 =>
 asS v16 fun l17 c18 =>
 ext 1 v14 fun v19 =>
 asB v19 fun b20 =>
 c (.func 23) [(.str l17 c18), (.str 1 34)] h15 fun v21 h22 =>
 ext 0 v21 fun v23 =>
 asS v23 fun l24 c25 =>
 ext 1 v21 fun v26 =>
 asB v26 fun b27 =>
 joinB (fun k28 => gate true b20
 (k28 b27 h22)
 (k28 false h22)) fun b30 h29 =>
 k (.tuple [(.str l24 c25), (.bool b30)]) h29)
noncomputable def z11 : J11 := ⟨fun _ _ => False⟩
noncomputable def r11 (c : Caller Prop FT) (k : KV) (m : Nat) : J11 := Nat.rec z11 (fun _ J => ⟨s11_0 c k J⟩) m
noncomputable def f11 (J : J11) : Jump := fun L f h => match L with
  | 0 => J.a0 (f 0) h
  | _ => False
noncomputable def d11 : Code := Option.rec .skip (fun c => c) Go.Proofs.Tryz.f11.body
noncomputable def q11 : Plans := []
noncomputable def u11 : Cuts := [(.root, 0)]
/- oxbow/macro.Is -/
structure J12 where
  a0 : AV → Nat → Nat → H → Prop
noncomputable def s12_0 (_c : Caller Prop FT) (k : KV) (_J : J12) (v_0 : AV) (l_1 : Nat) (c_1 : Nat) (h : H) : Prop :=
 asG v_0 fun g1 =>
 chk (Nat.ble 1 (len g1)) <|
 Hp.newK h (rowOf 47 g1) fun p2 h3 =>
 fAddr 0 (.ptr p2 0) fun v4 =>
 ld1 v4 h3 fun v5 =>
 asI .i64 v5 fun n6 =>
 joinB (fun k7 => gate true (ibeq n6 (Int.ofNat 5))
 (fAddr 1 (.ptr p2 0) fun v10 =>
 ld1 v10 h3 fun v11 =>
 asS v11 fun l12 c13 =>
 k7 (strEq l12 c13 l_1 c_1) h3)
 (k7 false h3)) fun b9 h8 =>
 k (.bool b9) h8
noncomputable def z12 : J12 := ⟨fun _ _ _ _ => False⟩
noncomputable def r12 (c : Caller Prop FT) (k : KV) (m : Nat) : J12 := Nat.rec z12 (fun _ J => ⟨s12_0 c k J⟩) m
noncomputable def f12 (J : J12) : Jump := fun L f h => match L with
  | 0 => asS (f 1) fun l_1 c_1 => J.a0 (f 0) l_1 c_1 h
  | _ => False
noncomputable def d12 : Code := Option.rec .skip (fun c => c) Go.Proofs.Tryz.f12.body
noncomputable def q12 : Plans := []
noncomputable def u12 : Cuts := [(.root, 0)]
/- (*strings.Builder).WriteByte -/
structure J13 where
  a0 : AV → Int → H → Prop
noncomputable def s13_0 (c : Caller Prop FT) (k : KV) (_J : J13) (v_0 : AV) (n_1 : Int) (h : H) : Prop :=
 c (.func 24) [v_0] h fun _ h2 =>
 oK (exNil v_0 h2) fun v3 h4 =>
 fAddr 1 v3 fun v5 =>
 ld1 v5 h4 fun v6 =>
 oK (withElem env 37 (fun e ei => exBuildSlice 1 [(0, (.int .u8 n_1))] h4 e ei)) fun v7 h8 =>
 oK (builtinA env .append [37, 37] [v6, v7] h8) fun v9 h10 =>
 oK (exNil v_0 h10) fun v11 h12 =>
 fAddr 1 v11 fun v13 =>
 st1 v13 v9 h12 fun h14 =>
 k .nili h14
noncomputable def z13 : J13 := ⟨fun _ _ _ => False⟩
noncomputable def r13 (c : Caller Prop FT) (k : KV) (m : Nat) : J13 := Nat.rec z13 (fun _ J => ⟨s13_0 c k J⟩) m
noncomputable def f13 (J : J13) : Jump := fun L f h => match L with
  | 0 => asI .u8 (f 1) fun n_1 => J.a0 (f 0) n_1 h
  | _ => False
noncomputable def d13 : Code := Option.rec .skip (fun c => c) Go.Proofs.Tryz.f13.body
noncomputable def q13 : Plans := []
noncomputable def u13 : Cuts := [(.root, 0)]
/- (*strings.Builder).WriteString -/
structure J14 where
  a0 : AV → Nat → Nat → H → Prop
noncomputable def s14_0 (c : Caller Prop FT) (k : KV) (_J : J14) (v_0 : AV) (l_1 : Nat) (c_1 : Nat) (h : H) : Prop :=
 c (.func 24) [v_0] h fun _ h2 =>
 oK (exNil v_0 h2) fun v3 h4 =>
 fAddr 1 v3 fun v5 =>
 ld1 v5 h4 fun v6 =>
 oK (builtinA env .append [37, 9] [v6, (.str l_1 c_1)] h4) fun v7 h8 =>
 oK (exNil v_0 h8) fun v9 h10 =>
 fAddr 1 v9 fun v11 =>
 st1 v11 v7 h10 fun h12 =>
 k (.tuple [(.int .i64 (Int.ofNat l_1)), .nili]) h12
noncomputable def z14 : J14 := ⟨fun _ _ _ _ => False⟩
noncomputable def r14 (c : Caller Prop FT) (k : KV) (m : Nat) : J14 := Nat.rec z14 (fun _ J => ⟨s14_0 c k J⟩) m
noncomputable def f14 (J : J14) : Jump := fun L f h => match L with
  | 0 => asS (f 1) fun l_1 c_1 => J.a0 (f 0) l_1 c_1 h
  | _ => False
noncomputable def d14 : Code := Option.rec .skip (fun c => c) Go.Proofs.Tryz.f14.body
noncomputable def q14 : Plans := []
noncomputable def u14 : Cuts := [(.root, 0)]
/- (*strings.Builder).Len -/
structure J15 where
  a0 : AV → H → Prop
noncomputable def s15_0 (_c : Caller Prop FT) (k : KV) (_J : J15) (v_0 : AV) (h : H) : Prop :=
 oK (exNil v_0 h) fun v1 h2 =>
 fAddr 1 v1 fun v3 =>
 ld1 v3 h2 fun v4 =>
 lenV v4 fun m5 =>
 k (.int .i64 (Int.ofNat m5)) h2
noncomputable def z15 : J15 := ⟨fun _ _ => False⟩
noncomputable def r15 (c : Caller Prop FT) (k : KV) (m : Nat) : J15 := Nat.rec z15 (fun _ J => ⟨s15_0 c k J⟩) m
noncomputable def f15 (J : J15) : Jump := fun L f h => match L with
  | 0 => J.a0 (f 0) h
  | _ => False
noncomputable def d15 : Code := Option.rec .skip (fun c => c) Go.Proofs.Tryz.f15.body
noncomputable def q15 : Plans := []
noncomputable def u15 : Cuts := [(.root, 0)]
/- (*strings.Builder).String -/
structure J16 where
  a0 : AV → H → Prop
noncomputable def s16_0 (_c : Caller Prop FT) (k : KV) (_J : J16) (v_0 : AV) (h : H) : Prop :=
 oK (exNil v_0 h) fun v1 h2 =>
 fAddr 1 v1 fun v3 =>
 ld1 v3 h2 fun v4 =>
 oK (builtinA env .unsafeSliceData [37] [v4] h2) fun v5 h6 =>
 oK (exNil v_0 h6) fun v7 h8 =>
 fAddr 1 v7 fun v9 =>
 ld1 v9 h8 fun v10 =>
 lenV v10 fun m11 =>
 oK (builtinA env .unsafeString [65, 3] [v5, (.int .i64 (Int.ofNat m11))] h8) fun v12 h13 =>
 asS v12 fun l14 c15 =>
 k (.str l14 c15) h13
noncomputable def z16 : J16 := ⟨fun _ _ => False⟩
noncomputable def r16 (c : Caller Prop FT) (k : KV) (m : Nat) : J16 := Nat.rec z16 (fun _ J => ⟨s16_0 c k J⟩) m
noncomputable def f16 (J : J16) : Jump := fun L f h => match L with
  | 0 => J.a0 (f 0) h
  | _ => False
noncomputable def d16 : Code := Option.rec .skip (fun c => c) Go.Proofs.Tryz.f16.body
noncomputable def q16 : Plans := [(1, [0, 1, 2, 3, 4, 5, 6, 7, 8, 9, 10, 11])]
noncomputable def u16 : Cuts := [(.root, 0)]
/- oxbow/oxbowref4.Lines -/
structure J17 where
  a0 : Nat → Nat → Nat → Nat → H → Prop
  a1 : Nat → Nat → Nat → Nat → AV → AV → AV → AV → Bool → Int → H → Prop
  a2 : Nat → Nat → Nat → Nat → AV → AV → AV → AV → Int → H → Prop
  a3 : AV → AV → H → Prop
  a4 : Nat → Nat → AV → AV → AV → H → Prop
  a5 : Nat → Nat → Nat → Nat → AV → AV → AV → AV → Bool → Int → Int → Int → Bool → H → Prop
noncomputable def s17_0 (c : Caller Prop FT) (_k : KV) (J : J17) (l_0 : Nat) (c_0 : Nat) (l_1 : Nat) (c_1 : Nat) (h : H) : Prop :=
 c (.func 25) [(.str l_1 c_1)] h fun v1 h2 =>
 Hp.newK h2 ob60 fun p3 h4 =>
 J.a1 l_0 c_0 l_1 c_1 v1 .nils .nils (.ptr p3 0) false (Int.ofNat 0) h4
noncomputable def s17_1 (c : Caller Prop FT) (_k : KV) (J : J17) (l_0 : Nat) (c_0 : Nat) (l_1 : Nat) (c_1 : Nat) (v_6 : AV) (v_7 : AV) (v_8 : AV) (v_9 : AV) (b_10 : Bool) (n_11 : Int) (h : H) : Prop :=
 lenV v_6 fun m5 =>
 cnd (iblt n_11 (Int.ofNat m5))
 (natI n_11 fun m6 =>
 elemA 3 m6 v_6 fun v7 =>
 fAddr 0 v7 fun v8 =>
 ld1 v8 h fun v9 =>
 asI .u8 v9 fun n10 =>
 cnd (ibeq n10 (Int.ofNat 10))
 (natI n_11 fun m11 =>
 elemA 3 m11 v_6 fun v12 =>
 fAddr 2 v12 fun v13 =>
 ld1 v13 h fun v14 =>
 asI .i64 v14 fun n15 =>
 fAddr 2 v_9 fun v16 =>
 st1 v16 (.int .i64 n15) h fun h17 =>
 ldn 4 v_9 h17 fun v18 =>
 oK (withElem env 55 (fun e ei => exBuildSlice 1 [(0, v18)] h17 e ei)) fun v19 h20 =>
 oK (builtinA env .append [55, 55] [v_7, v19] h20) fun v21 h22 =>
 natI n_11 fun m23 =>
 elemA 3 m23 v_6 fun v24 =>
 fAddr 2 v24 fun v25 =>
 ld1 v25 h22 fun v26 =>
 asI .i64 v26 fun n27 =>
 oK (exBuild env (env.ty 60) [(1, (.int .i64 n27))] h22) fun v28 h29 =>
 stn 4 v_9 v28 h29 fun h30 =>
 fI (wrap .i64 (iadd n_11 (Int.ofNat 1))) fun n31 =>
 J.a1 l_0 c_0 l_1 c_1 v_6 v21 v_8 v_9 false n31 h30)
 (natI n_11 fun m32 =>
 elemA 3 m32 v_6 fun v33 =>
 fAddr 0 v33 fun v34 =>
 ld1 v34 h fun v35 =>
 asI .u8 v35 fun n36 =>
 c (.func 26) [(.int .u8 n36)] h fun v37 h38 =>
 asB v37 fun b39 =>
 cnd b39
 (fI (wrap .i64 (iadd n_11 (Int.ofNat 1))) fun n40 =>
 J.a1 l_0 c_0 l_1 c_1 v_6 v_7 v_8 v_9 true n40 h38)
 (c (.func 27) [v_6, (.int .i64 n_11)] h38 fun v41 h42 =>
 ext 0 v41 fun v43 =>
 asI .i64 v43 fun n44 =>
 ext 1 v41 fun v45 =>
 asB v45 fun b46 =>
 cnd (iblt n_11 n44)
 (cnd b46
 (natI n_11 fun m47 =>
 elemA 3 m47 v_6 fun v48 =>
 fAddr 1 v48 fun v49 =>
 ld1 v49 h42 fun v50 =>
 asI .i64 v50 fun n51 =>
 fI (wrap .i64 (iadd n_11 (Int.ofNat 1))) fun n52 =>
 natI n52 fun m53 =>
 elemA 3 m53 v_6 fun v54 =>
 fAddr 2 v54 fun v55 =>
 ld1 v55 h42 fun v56 =>
 asI .i64 v56 fun n57 =>
 oK (exBuild env (env.ty 44) [(0, (.str l_0 c_0)), (1, (.int .i64 n51)), (2, (.int .i64 n57))] h42) fun v58 h59 =>
 oK (exBuild env (env.ty 74) [(0, (.int .i64 (Int.ofNat 1))), (1, v58)] h59) fun v60 h61 =>
 oK (withElem env 56 (fun e ei => exBuildSlice 1 [(0, v60)] h61 e ei)) fun v62 h63 =>
 oK (builtinA env .append [56, 56] [v_8, v62] h63) fun v64 h65 =>
 J.a4 l_1 c_1 v_7 v64 v_9 h65)
 (J.a1 l_0 c_0 l_1 c_1 v_6 v_7 v_8 v_9 true n44 h42))
 (c (.func 28) [v_6, (.int .i64 n_11)] h42 fun v66 h67 =>
 ext 0 v66 fun v68 =>
 asI .i64 v68 fun n69 =>
 ext 1 v66 fun v70 =>
 asI .i64 v70 fun n71 =>
 ext 2 v66 fun v72 =>
 asB v72 fun b73 =>
 J.a5 l_0 c_0 l_1 c_1 v_6 v_7 v_8 v_9 b_10 n_11 n69 n71 b73 h67))))
 (lenV v_7 fun m74 =>
 cnd (iblt (Int.ofNat 0) (Int.ofNat m74))
 (lenV v_7 fun m75 =>
 fI (wrap .i64 (isub (Int.ofNat m75) (Int.ofNat 1))) fun n76 =>
 natI n76 fun m77 =>
 elemA 4 m77 v_7 fun v78 =>
 fAddr 2 v78 fun v79 =>
 st1 v79 (.int .i64 (Int.ofNat l_1)) h fun h80 =>
 J.a3 v_7 v_8 h80)
 (J.a3 v_7 v_8 h))
noncomputable def s17_2 (_c : Caller Prop FT) (_k : KV) (J : J17) (l_0 : Nat) (c_0 : Nat) (l_1 : Nat) (c_1 : Nat) (v_6 : AV) (v_7 : AV) (v_8 : AV) (v_9 : AV) (n_15 : Int) (h : H) : Prop :=
 J.a1 l_0 c_0 l_1 c_1 v_6 v_7 v_8 v_9 false n_15 h
noncomputable def s17_3 (_c : Caller Prop FT) (k : KV) (_J : J17) (v_7 : AV) (v_8 : AV) (h : H) : Prop :=
 k (.tuple [v_7, v_8]) h
noncomputable def s17_4 (_c : Caller Prop FT) (k : KV) (_J : J17) (l_1 : Nat) (_c_1 : Nat) (v_7 : AV) (v_8 : AV) (v_9 : AV) (h : H) : Prop :=
 fAddr 2 v_9 fun v81 =>
 st1 v81 (.int .i64 (Int.ofNat l_1)) h fun h82 =>
 fAddr 3 v_9 fun v83 =>
 st1 v83 (.bool true) h82 fun h84 =>
 ldn 4 v_9 h84 fun v85 =>
 oK (withElem env 55 (fun e ei => exBuildSlice 1 [(0, v85)] h84 e ei)) fun v86 h87 =>
 oK (builtinA env .append [55, 55] [v_7, v86] h87) fun v88 h89 =>
 k (.tuple [v88, v_8]) h89
noncomputable def s17_5 (c : Caller Prop FT) (_k : KV) (J : J17) (l_0 : Nat) (c_0 : Nat) (l_1 : Nat) (c_1 : Nat) (v_6 : AV) (v_7 : AV) (v_8 : AV) (v_9 : AV) (b_10 : Bool) (n_11 : Int) (n_14 : Int) (n_15 : Int) (b_16 : Bool) (h : H) : Prop :=
 natI n_11 fun m90 =>
 elemA 3 m90 v_6 fun v91 =>
 fAddr 1 v91 fun v92 =>
 ld1 v92 h fun v93 =>
 asI .i64 v93 fun n94 =>
 fI (wrap .i64 (isub n_15 (Int.ofNat 1))) fun n95 =>
 natI n95 fun m96 =>
 elemA 3 m96 v_6 fun v97 =>
 fAddr 2 v97 fun v98 =>
 ld1 v98 h fun v99 =>
 asI .i64 v99 fun n100 =>
 oK (exBuild env (env.ty 44) [(0, (.str l_0 c_0)), (1, (.int .i64 n94)), (2, (.int .i64 n100))] h) fun v101 h102 =>
 Hp.newK h102 ob44 fun p103 h104 =>
 ld1 v92 h104 fun v105 =>
 asI .i64 v105 fun n106 =>
 eqC (.int .i64 n106) (.int .i64 n94) <|
 ld1 v98 h104 fun v107 =>
 asI .i64 v107 fun n108 =>
 eqC (.int .i64 n108) (.int .i64 n100) <|
 stn 3 (.ptr p103 0) v101 h104 fun h109 =>
 fAddr 0 v_9 fun v110 =>
 ld1 v110 h109 fun v111 =>
 oK (slice3 env h109 66 v_6 (some (natOf (.int .i64 n_11))) (some (natOf (.int .i64 n_15))) none) fun v112 h113 =>
 ldn 3 (.ptr p103 0) h113 fun v114 =>
 c (.func 29) [v112] h113 fun v115 h116 =>
 asS v115 fun l117 c118 =>
 ld1 v110 h116 fun v119 =>
 eqC v119 v111 <|
 ldn 3 (.ptr p103 0) h116 fun v120 =>
 eqC v120 v114 <|
 oK (exBuild env (env.ty 47) [(0, (.int .i64 n_14)), (1, (.str l117 c118)), (2, (.bool b_10)), (3, v114)] h116) fun v121 h122 =>
 oK (withElem env 27 (fun e ei => exBuildSlice 1 [(0, v121)] h122 e ei)) fun v123 h124 =>
 ld1 v110 h124 fun v125 =>
 eqC v125 v111 <|
 oK (builtinA env .append [27, 27] [v111, v123] h124) fun v126 h127 =>
 fAddr 0 v_9 fun v128 =>
 st1 v128 v126 h127 fun h129 =>
 cnd b_16
 (ldn 3 (.ptr p103 0) h129 fun v130 =>
 oK (exBuild env (env.ty 74) [(0, (.int .i64 (Int.ofNat 2))), (1, v130)] h129) fun v131 h132 =>
 oK (withElem env 56 (fun e ei => exBuildSlice 1 [(0, v131)] h132 e ei)) fun v133 h134 =>
 oK (builtinA env .append [56, 56] [v_8, v133] h134) fun v135 h136 =>
 J.a2 l_0 c_0 l_1 c_1 v_6 v_7 v135 v_9 n_15 h136)
 (J.a2 l_0 c_0 l_1 c_1 v_6 v_7 v_8 v_9 n_15 h129)
noncomputable def z17 : J17 := ⟨fun _ _ _ _ _ => False, fun _ _ _ _ _ _ _ _ _ _ _ => False, fun _ _ _ _ _ _ _ _ _ _ => False, fun _ _ _ => False, fun _ _ _ _ _ _ => False, fun _ _ _ _ _ _ _ _ _ _ _ _ _ _ => False⟩
noncomputable def r17 (c : Caller Prop FT) (k : KV) (m : Nat) : J17 := Nat.rec z17 (fun _ J => ⟨s17_0 c k J, s17_1 c k J, s17_2 c k J, s17_3 c k J, s17_4 c k J, s17_5 c k J⟩) m
noncomputable def f17 (J : J17) : Jump := fun L f h => match L with
  | 0 => asS (f 0) fun l_0 c_0 => asS (f 1) fun l_1 c_1 => J.a0 l_0 c_0 l_1 c_1 h
  | 1 => asS (f 0) fun l_0 c_0 => asS (f 1) fun l_1 c_1 => asB (f 10) fun b_10 => asI .i64 (f 11) fun n_11 => J.a1 l_0 c_0 l_1 c_1 (f 6) (f 7) (f 8) (f 9) b_10 n_11 h
  | 2 => asS (f 0) fun l_0 c_0 => asS (f 1) fun l_1 c_1 => asI .i64 (f 15) fun n_15 => J.a2 l_0 c_0 l_1 c_1 (f 6) (f 7) (f 8) (f 9) n_15 h
  | 3 => J.a3 (f 7) (f 8) h
  | 4 => asS (f 1) fun l_1 c_1 => J.a4 l_1 c_1 (f 7) (f 8) (f 9) h
  | 5 => asS (f 0) fun l_0 c_0 => asS (f 1) fun l_1 c_1 => asB (f 10) fun b_10 => asI .i64 (f 11) fun n_11 => asI .i64 (f 14) fun n_14 => asI .i64 (f 15) fun n_15 => asB (f 16) fun b_16 => J.a5 l_0 c_0 l_1 c_1 (f 6) (f 7) (f 8) (f 9) b_10 n_11 n_14 n_15 b_16 h
  | _ => False
noncomputable def d17 : Code := Option.rec .skip (fun c => c) Go.Proofs.Tryz.f17.body
noncomputable def q17 : Plans := [(20, [0, 1, 2, 3, 4, 5, 6, 7, 8, 9, 10, 11, 12, 13, 14, 15, 16, 17]), (27, [0, 1, 2, 3, 4, 5, 6, 7, 8, 9, 10, 11, 12, 13, 14]), (28, [0, 1, 2, 3, 4, 5, 6, 8, 9, 7, 10, 11, 12, 13, 14])]
noncomputable def u17 : Cuts := [(.root, 0), ((.l (.r (.l (.r (.r (.r (.r (.r (.r .root))))))))), 1), ((.r (.r (.r (.r (.r (.r (.r (.r (.l (.r (.l (.l (.r (.l (.r (.r (.r (.r (.r (.r .root)))))))))))))))))))), 2), ((.r (.r (.r (.r (.r (.r (.r (.r .root)))))))), 3), ((.r (.l (.r (.l (.l (.r (.l (.r (.r (.r (.l (.r (.l (.l (.r (.l (.r (.r (.r (.r (.r (.r .root)))))))))))))))))))))), 4), ((.r (.r (.r (.r (.r (.l (.r (.l (.l (.r (.l (.r (.r (.r (.r (.r (.r .root))))))))))))))))), 5)]
/- oxbow/header.number -/
structure J18 where
  a0 : AV → H → Prop
noncomputable def s18_0 (c : Caller Prop FT) (k : KV) (_J : J18) (v_0 : AV) (h : H) : Prop :=
 asG v_0 fun g1 =>
 chk (Nat.ble 1 (len g1)) <|
 Hp.newK h (rowOf 47 g1) fun p2 h3 =>
 fAddr 0 (.ptr p2 0) fun v4 =>
 ld1 v4 h3 fun v5 =>
 asI .i64 v5 fun n6 =>
 joinB (fun k7 => gate false (bnot (ibeq n6 (Int.ofNat 2)))
 (fAddr 1 (.ptr p2 0) fun v10 =>
 ld1 v10 h3 fun v11 =>
 asS v11 fun l12 c13 =>
 k7 (strEq l12 c13 0 0) h3)
 (k7 true h3)) fun b9 h8 =>
 joinB (fun k14 => gate false b9
 (fAddr 1 (.ptr p2 0) fun v17 =>
 ld1 v17 h8 fun v18 =>
 asS v18 fun l19 c20 =>
 c (.func 30) [(.str l19 c20), (.str 10 270211885617516653982000)] h8 fun v21 h22 =>
 asS v21 fun l23 c24 =>
 k14 (bnot (strEq l23 c24 0 0)) h22)
 (k14 true h8)) fun b16 h15 =>
 cnd b16
 (k (.int .i64 (Int.ofNat 0)) h15)
 (fAddr 1 (.ptr p2 0) fun v25 =>
 ld1 v25 h15 fun v26 =>
 asS v26 fun l27 c28 =>
 c (.func 31) [(.str l27 c28)] h15 fun v29 h30 =>
 ext 0 v29 fun v31 =>
 asI .i64 v31 fun n32 =>
 ext 1 v29 fun v33 =>
 oV (binA env .neq 49 v33 .nili) fun v34 =>
 asB v34 fun b35 =>
 joinB (fun k36 => gate false b35
 (k36 (iblt (Int.ofNat 2147483647) n32) h30)
 (k36 true h30)) fun b38 h37 =>
 cnd b38
 (k (.int .i64 (Int.ofNat 0)) h37)
 (k (.int .i64 n32) h37))
noncomputable def z18 : J18 := ⟨fun _ _ => False⟩
noncomputable def r18 (c : Caller Prop FT) (k : KV) (m : Nat) : J18 := Nat.rec z18 (fun _ J => ⟨s18_0 c k J⟩) m
noncomputable def f18 (J : J18) : Jump := fun L f h => match L with
  | 0 => J.a0 (f 0) h
  | _ => False
noncomputable def d18 : Code := Option.rec .skip (fun c => c) Go.Proofs.Tryz.f18.body
noncomputable def q18 : Plans := []
noncomputable def u18 : Cuts := [(.root, 0)]
/- strings.HasPrefix -/
structure J19 where
  a0 : Nat → Nat → Nat → Nat → H → Prop
noncomputable def s19_0 (c : Caller Prop FT) (k : KV) (_J : J19) (l_0 : Nat) (c_0 : Nat) (l_1 : Nat) (c_1 : Nat) (h : H) : Prop :=
 c (.func 32) [(.str l_0 c_0), (.str l_1 c_1)] h fun v1 h2 =>
 asB v1 fun b3 =>
 k (.bool b3) h2
noncomputable def z19 : J19 := ⟨fun _ _ _ _ _ => False⟩
noncomputable def r19 (c : Caller Prop FT) (k : KV) (m : Nat) : J19 := Nat.rec z19 (fun _ J => ⟨s19_0 c k J⟩) m
noncomputable def f19 (J : J19) : Jump := fun L f h => match L with
  | 0 => asS (f 0) fun l_0 c_0 => asS (f 1) fun l_1 c_1 => J.a0 l_0 c_0 l_1 c_1 h
  | _ => False
noncomputable def d19 : Code := Option.rec .skip (fun c => c) Go.Proofs.Tryz.f19.body
noncomputable def q19 : Plans := []
noncomputable def u19 : Cuts := [(.root, 0)]
/- oxbow/pnum.Bytes -/
structure J20 where
  a0 : Nat → Nat → H → Prop
  a1 : Nat → Nat → AV → Nat → Nat → H → Prop
  a2 : H → Prop
  a3 : Nat → Nat → AV → Nat → Nat → Int → Int → H → Prop
noncomputable def s20_0 (c : Caller Prop FT) (k : KV) (J : J20) (l_0 : Nat) (c_0 : Nat) (h : H) : Prop :=
 Hp.newK h ob39 fun p1 h2 =>
 c (.func 33) [(.str l_0 c_0)] h2 fun v3 h4 =>
 ext 0 v3 fun v5 =>
 asS v5 fun l6 _ =>
 ext 1 v3 fun v8 =>
 asB v8 fun b9 =>
 cutS l_0 c_0 l6 l_0 fun l10 c11 =>
 joinB (fun k12 => gate false (bnot b9)
 (k12 (iblt (Int.ofNat l10) (Int.ofNat 2)) h4)
 (k12 true h4)) fun b14 h13 =>
 joinB (fun k15 => gate false b14
 (fI (wrap .i64 (isub (Int.ofNat l10) (Int.ofNat 1))) fun n18 =>
 natI n18 fun m19 =>
 idxS l10 c11 m19 fun m20 =>
 idxS l10 c11 0 fun m21 =>
 k15 (bnot (ibeq (Int.ofNat m20) (Int.ofNat m21))) h13)
 (k15 true h13)) fun b17 h16 =>
 cnd b17
 (J.a2 h16)
 (fI (wrap .i64 (isub (Int.ofNat l10) (Int.ofNat 1))) fun n22 =>
 natI n22 fun m23 =>
 cutS l10 c11 1 m23 fun l24 c25 =>
 cnd (strEq l24 c25 0 0)
 (c (.func 16) [(.ptr p1 0)] h16 fun v26 h27 =>
 asS v26 fun l28 c29 =>
 k (.tuple [(.str l28 c29), (.bool true)]) h27)
 (idxS l24 c25 0 fun m30 =>
 idxS l10 c11 0 fun m31 =>
 cnd (ibeq (Int.ofNat m30) (Int.ofNat m31))
 (J.a2 h16)
 (idxS l24 c25 0 fun m32 =>
 cnd (bnot (ibeq (Int.ofNat m32) (Int.ofNat 92)))
 (idxS l24 c25 0 fun m33 =>
 c (.func 13) [(.ptr p1 0), (.int .u8 (Int.ofNat m33))] h16 fun _ h35 =>
 cutS l24 c25 1 l24 fun l36 c37 =>
 J.a1 l10 c11 (.ptr p1 0) l36 c37 h35)
 (cutS l24 c25 1 l24 fun l38 c39 =>
 c (.func 34) [(.str l38 c39)] h16 fun v40 h41 =>
 ext 0 v40 fun v42 =>
 asI .u8 v42 fun n43 =>
 ext 1 v40 fun v44 =>
 asI .i64 v44 fun n45 =>
 J.a3 l10 c11 (.ptr p1 0) l24 c25 n43 n45 h41))))
noncomputable def s20_1 (c : Caller Prop FT) (k : KV) (J : J20) (l_0 : Nat) (c_0 : Nat) (v_4 : AV) (l_5 : Nat) (c_5 : Nat) (h : H) : Prop :=
 cnd (strEq l_5 c_5 0 0)
 (c (.func 16) [v_4] h fun v46 h47 =>
 asS v46 fun l48 c49 =>
 k (.tuple [(.str l48 c49), (.bool true)]) h47)
 (idxS l_5 c_5 0 fun m50 =>
 idxS l_0 c_0 0 fun m51 =>
 cnd (ibeq (Int.ofNat m50) (Int.ofNat m51))
 (J.a2 h)
 (idxS l_5 c_5 0 fun m52 =>
 cnd (bnot (ibeq (Int.ofNat m52) (Int.ofNat 92)))
 (idxS l_5 c_5 0 fun m53 =>
 c (.func 13) [v_4, (.int .u8 (Int.ofNat m53))] h fun _ h55 =>
 cutS l_5 c_5 1 l_5 fun l56 c57 =>
 J.a1 l_0 c_0 v_4 l56 c57 h55)
 (cutS l_5 c_5 1 l_5 fun l58 c59 =>
 c (.func 34) [(.str l58 c59)] h fun v60 h61 =>
 ext 0 v60 fun v62 =>
 asI .u8 v62 fun n63 =>
 ext 1 v60 fun v64 =>
 asI .i64 v64 fun n65 =>
 cnd (iblt (Int.ofNat 0) n65)
 (c (.func 13) [v_4, (.int .u8 n63)] h61 fun _ h67 =>
 fI (wrap .i64 (iadd (Int.ofNat 1) n65)) fun n68 =>
 natI n68 fun m69 =>
 cutS l_5 c_5 m69 l_5 fun l70 c71 =>
 J.a1 l_0 c_0 v_4 l70 c71 h67)
 (k (.tuple [(.str 0 0), (.bool false)]) h61))))
noncomputable def s20_2 (_c : Caller Prop FT) (k : KV) (_J : J20) (h : H) : Prop :=
 k (.tuple [(.str 0 0), (.bool false)]) h
noncomputable def s20_3 (c : Caller Prop FT) (k : KV) (J : J20) (l_0 : Nat) (c_0 : Nat) (v_4 : AV) (l_5 : Nat) (c_5 : Nat) (n_8 : Int) (n_9 : Int) (h : H) : Prop :=
 cnd (iblt (Int.ofNat 0) n_9)
 (c (.func 13) [v_4, (.int .u8 n_8)] h fun _ h73 =>
 fI (wrap .i64 (iadd (Int.ofNat 1) n_9)) fun n74 =>
 natI n74 fun m75 =>
 cutS l_5 c_5 m75 l_5 fun l76 c77 =>
 J.a1 l_0 c_0 v_4 l76 c77 h73)
 (k (.tuple [(.str 0 0), (.bool false)]) h)
noncomputable def z20 : J20 := ⟨fun _ _ _ => False, fun _ _ _ _ _ _ => False, fun _ => False, fun _ _ _ _ _ _ _ _ => False⟩
noncomputable def r20 (c : Caller Prop FT) (k : KV) (m : Nat) : J20 := Nat.rec z20 (fun _ J => ⟨s20_0 c k J, s20_1 c k J, s20_2 c k J, s20_3 c k J⟩) m
noncomputable def f20 (J : J20) : Jump := fun L f h => match L with
  | 0 => asS (f 0) fun l_0 c_0 => J.a0 l_0 c_0 h
  | 1 => asS (f 0) fun l_0 c_0 => asS (f 5) fun l_5 c_5 => J.a1 l_0 c_0 (f 4) l_5 c_5 h
  | 2 => J.a2 h
  | 3 => asS (f 0) fun l_0 c_0 => asS (f 5) fun l_5 c_5 => asI .u8 (f 8) fun n_8 => asI .i64 (f 9) fun n_9 => J.a3 l_0 c_0 (f 4) l_5 c_5 n_8 n_9 h
  | _ => False
noncomputable def d20 : Code := Option.rec .skip (fun c => c) Go.Proofs.Tryz.f20.body
noncomputable def q20 : Plans := [(5, [0, 1, 2, 3, 4, 5, 6, 7, 8, 9, 10, 11, 12, 13, 14, 15, 16]), (9, [0, 1, 2, 3, 4, 5])]
noncomputable def u20 : Cuts := [(.root, 0), ((.lab (.r .root) 1), 1), ((.lab (.r .root) 0), 2), ((.r (.l (.r (.r (.r (.r (.r (.r (.r (.l (.r .root))))))))))), 3)]
/- oxbow/oxbowref9.Decimal -/
structure J21 where
  a0 : Int → H → Prop
  a1 : Int → Nat → Nat → AV → H → Prop
  a2 : Int → Nat → Nat → H → Prop
noncomputable def s21_0 (_c : Caller Prop FT) (_k : KV) (J : J21) (n_0 : Int) (h : H) : Prop :=
 fI (wrap .u64 n_0) fun n1 =>
 cnd (iblt n_0 (Int.ofNat 0))
 (oV (unA .neg (.int .u64 n1)) fun v2 =>
 asI .u64 v2 fun n3 =>
 J.a2 n3 1 45 h)
 (J.a2 n1 0 0 h)
noncomputable def s21_1 (_c : Caller Prop FT) (k : KV) (J : J21) (n_3 : Int) (l_4 : Nat) (c_4 : Nat) (v_5 : AV) (h : H) : Prop :=
 joinB (fun k4 => gate false (iblt (Int.ofNat 0) n_3)
 (lenV v_5 fun m7 =>
 k4 (ibeq (Int.ofNat m7) (Int.ofNat 0)) h)
 (k4 true h)) fun b6 h5 =>
 cnd b6
 (remI n_3 (Int.ofNat 10) fun n8 =>
 fI (wrap .u64 (iadd (Int.ofNat 48) n8)) fun n9 =>
 fI (wrap .u8 n9) fun n10 =>
 oK (withElem env 37 (fun e ei => exBuildSlice 1 [(0, (.int .u8 n10))] h5 e ei)) fun v11 h12 =>
 oK (builtinA env .append [37, 37] [v11, v_5] h12) fun v13 h14 =>
 quoI .u64 n_3 (Int.ofNat 10) fun n15 =>
 J.a1 n15 l_4 c_4 v13 h14)
 (oK (convA env h5 37 9 v_5) fun v16 h17 =>
 asS v16 fun l18 c19 =>
 catS l_4 c_4 l18 c19 fun l20 c21 =>
 k (.str l20 c21) h17)
noncomputable def s21_2 (_c : Caller Prop FT) (_k : KV) (J : J21) (n_3 : Int) (l_4 : Nat) (c_4 : Nat) (h : H) : Prop :=
 J.a1 n_3 l_4 c_4 .nils h
noncomputable def z21 : J21 := ⟨fun _ _ => False, fun _ _ _ _ _ => False, fun _ _ _ _ => False⟩
noncomputable def r21 (c : Caller Prop FT) (k : KV) (m : Nat) : J21 := Nat.rec z21 (fun _ J => ⟨s21_0 c k J, s21_1 c k J, s21_2 c k J⟩) m
noncomputable def f21 (J : J21) : Jump := fun L f h => match L with
  | 0 => asI .i64 (f 0) fun n_0 => J.a0 n_0 h
  | 1 => asI .u64 (f 3) fun n_3 => asS (f 4) fun l_4 c_4 => J.a1 n_3 l_4 c_4 (f 5) h
  | 2 => asI .u64 (f 3) fun n_3 => asS (f 4) fun l_4 c_4 => J.a2 n_3 l_4 c_4 h
  | _ => False
noncomputable def d21 : Code := Option.rec .skip (fun c => c) Go.Proofs.Tryz.f21.body
noncomputable def q21 : Plans := []
noncomputable def u21 : Cuts := [(.root, 0), ((.l (.l (.r (.r (.r (.r (.r .root))))))), 1), ((.r (.r (.r (.r .root)))), 2)]
/- strings.CutPrefix -/
structure J22 where
  a0 : Nat → Nat → Nat → Nat → H → Prop
noncomputable def s22_0 (c : Caller Prop FT) (k : KV) (_J : J22) (l_0 : Nat) (c_0 : Nat) (l_1 : Nat) (c_1 : Nat) (h : H) : Prop :=
 c (.func 35) [(.str l_0 c_0), (.str l_1 c_1)] h fun v1 h2 =>
 ext 0 v1 fun v3 =>
 asS v3 fun l4 c5 =>
 ext 1 v1 fun v6 =>
 asB v6 fun b7 =>
 k (.tuple [(.str l4 c5), (.bool b7)]) h2
noncomputable def z22 : J22 := ⟨fun _ _ _ _ _ => False⟩
noncomputable def r22 (c : Caller Prop FT) (k : KV) (m : Nat) : J22 := Nat.rec z22 (fun _ J => ⟨s22_0 c k J⟩) m
noncomputable def f22 (J : J22) : Jump := fun L f h => match L with
  | 0 => asS (f 0) fun l_0 c_0 => asS (f 1) fun l_1 c_1 => J.a0 l_0 c_0 l_1 c_1 h
  | _ => False
noncomputable def d22 : Code := Option.rec .skip (fun c => c) Go.Proofs.Tryz.f22.body
noncomputable def q22 : Plans := []
noncomputable def u22 : Cuts := [(.root, 0)]
/- strings.CutSuffix -/
structure J23 where
  a0 : Nat → Nat → Nat → Nat → H → Prop
noncomputable def s23_0 (c : Caller Prop FT) (k : KV) (_J : J23) (l_0 : Nat) (c_0 : Nat) (l_1 : Nat) (c_1 : Nat) (h : H) : Prop :=
 c (.func 36) [(.str l_0 c_0), (.str l_1 c_1)] h fun v1 h2 =>
 ext 0 v1 fun v3 =>
 asS v3 fun l4 c5 =>
 ext 1 v1 fun v6 =>
 asB v6 fun b7 =>
 k (.tuple [(.str l4 c5), (.bool b7)]) h2
noncomputable def z23 : J23 := ⟨fun _ _ _ _ _ => False⟩
noncomputable def r23 (c : Caller Prop FT) (k : KV) (m : Nat) : J23 := Nat.rec z23 (fun _ J => ⟨s23_0 c k J⟩) m
noncomputable def f23 (J : J23) : Jump := fun L f h => match L with
  | 0 => asS (f 0) fun l_0 c_0 => asS (f 1) fun l_1 c_1 => J.a0 l_0 c_0 l_1 c_1 h
  | _ => False
noncomputable def d23 : Code := Option.rec .skip (fun c => c) Go.Proofs.Tryz.f23.body
noncomputable def q23 : Plans := []
noncomputable def u23 : Cuts := [(.root, 0)]
/- (*strings.Builder).copyCheck -/
structure J24 where
  a0 : AV → H → Prop
noncomputable def s24_0 (c : Caller Prop FT) (k : KV) (_J : J24) (v_0 : AV) (h : H) : Prop :=
 oK (exNil v_0 h) fun v1 h2 =>
 fAddr 0 v1 fun v3 =>
 ld1 v3 h2 fun v4 =>
 oV (binA env .eql 36 v4 .nilp) fun v5 =>
 asB v5 fun b6 =>
 cnd b6
 (oK (convA env h2 36 82 v_0) fun v7 h8 =>
 c (.func 37) [v7] h8 fun v9 h10 =>
 oK (convA env h10 82 36 v9) fun v11 h12 =>
 oK (exNil v_0 h12) fun v13 h14 =>
 fAddr 0 v13 fun v15 =>
 st1 v15 v11 h14 fun h16 =>
 k (.tuple []) h16)
 (oK (exNil v_0 h2) fun v17 h18 =>
 fAddr 0 v17 fun v19 =>
 ld1 v19 h18 fun v20 =>
 oV (binA env .neq 36 v20 v_0) fun v21 =>
 asB v21 fun b22 =>
 cnd b22
 (False)
 (k (.tuple []) h18))
noncomputable def z24 : J24 := ⟨fun _ _ => False⟩
noncomputable def r24 (c : Caller Prop FT) (k : KV) (m : Nat) : J24 := Nat.rec z24 (fun _ J => ⟨s24_0 c k J⟩) m
noncomputable def f24 (J : J24) : Jump := fun L f h => match L with
  | 0 => J.a0 (f 0) h
  | _ => False
noncomputable def d24 : Code := Option.rec .skip (fun c => c) Go.Proofs.Tryz.f24.body
noncomputable def q24 : Plans := []
noncomputable def u24 : Cuts := [(.root, 0)]
/- oxbow/oxbowref4.Chars -/
structure J25 where
  a0 : Nat → Nat → H → Prop
noncomputable def s25_0 (c : Caller Prop FT) (k : KV) (_J : J25) (l_0 : Nat) (c_0 : Nat) (h : H) : Prop :=
 c (.func 39) [(.str l_0 c_0)] h fun v1 h2 =>
 c (.func 38) [v1] h2 fun v3 h4 =>
 joinB (fun k5 => gate true (iblt (Int.ofNat 0) (Int.ofNat l_0))
 (lenV v3 fun m8 =>
 joinB (fun k9 => gate false (ibeq (Int.ofNat m8) (Int.ofNat 0))
 (lenV v3 fun m12 =>
 fI (wrap .i64 (isub (Int.ofNat m12) (Int.ofNat 1))) fun n13 =>
 natI n13 fun m14 =>
 elemA 3 m14 v3 fun v15 =>
 fAddr 0 v15 fun v16 =>
 ld1 v16 h4 fun v17 =>
 asI .u8 v17 fun n18 =>
 k9 (bnot (ibeq n18 (Int.ofNat 10))) h4)
 (k9 true h4)) fun b11 h10 =>
 k5 b11 h10)
 (k5 false h4)) fun b7 h6 =>
 cnd b7
 (oK (exBuild env (env.ty 69) [(0, (.int .u8 (Int.ofNat 10))), (1, (.int .i64 (Int.ofNat l_0))), (2, (.int .i64 (Int.ofNat l_0)))] h6) fun v19 h20 =>
 oK (withElem env 66 (fun e ei => exBuildSlice 1 [(0, v19)] h20 e ei)) fun v21 h22 =>
 oK (builtinA env .append [66, 66] [v3, v21] h22) fun v23 h24 =>
 k v23 h24)
 (k v3 h6)
noncomputable def z25 : J25 := ⟨fun _ _ _ => False⟩
noncomputable def r25 (c : Caller Prop FT) (k : KV) (m : Nat) : J25 := Nat.rec z25 (fun _ J => ⟨s25_0 c k J⟩) m
noncomputable def f25 (J : J25) : Jump := fun L f h => match L with
  | 0 => asS (f 0) fun l_0 c_0 => J.a0 l_0 c_0 h
  | _ => False
noncomputable def d25 : Code := Option.rec .skip (fun c => c) Go.Proofs.Tryz.f25.body
noncomputable def q25 : Plans := []
noncomputable def u25 : Cuts := [(.root, 0)]
/- oxbow/oxbowref4.White -/
structure J26 where
  a0 : Int → H → Prop
noncomputable def s26_0 (_c : Caller Prop FT) (k : KV) (_J : J26) (n_0 : Int) (h : H) : Prop :=
 joinB (fun k1 => gate false (ibeq n_0 (Int.ofNat 32))
 (k1 (ibeq n_0 (Int.ofNat 9)) h)
 (k1 true h)) fun b3 h2 =>
 joinB (fun k4 => gate false b3
 (joinB (fun k7 => gate true (ible (Int.ofNat 11) n_0)
 (k7 (ible n_0 (Int.ofNat 13)) h2)
 (k7 false h2)) fun b9 h8 =>
 k4 b9 h8)
 (k4 true h2)) fun b6 h5 =>
 k (.bool b6) h5
noncomputable def z26 : J26 := ⟨fun _ _ => False⟩
noncomputable def r26 (c : Caller Prop FT) (k : KV) (m : Nat) : J26 := Nat.rec z26 (fun _ J => ⟨s26_0 c k J⟩) m
noncomputable def f26 (J : J26) : Jump := fun L f h => match L with
  | 0 => asI .u8 (f 0) fun n_0 => J.a0 n_0 h
  | _ => False
noncomputable def d26 : Code := Option.rec .skip (fun c => c) Go.Proofs.Tryz.f26.body
noncomputable def q26 : Plans := []
noncomputable def u26 : Cuts := [(.root, 0)]
/- oxbow/oxbowref4.comment -/
structure J27 where
  a0 : AV → Int → H → Prop
  a1 : AV → Int → H → Prop
  a2 : AV → Int → H → Prop
noncomputable def s27_0 (c : Caller Prop FT) (k : KV) (J : J27) (v_0 : AV) (n_1 : Int) (h : H) : Prop :=
 c (.func 40) [v_0, (.int .i64 n_1)] h fun v1 h2 =>
 asI .u8 v1 fun n3 =>
 cnd (bnot (ibeq n3 (Int.ofNat 47)))
 (k (.tuple [(.int .i64 n_1), (.bool false)]) h2)
 (fI (wrap .i64 (iadd n_1 (Int.ofNat 1))) fun n4 =>
 c (.func 40) [v_0, (.int .i64 n4)] h2 fun v5 h6 =>
 asI .u8 v5 fun n7 =>
 cnd (ibeq n7 (Int.ofNat 47))
 (J.a1 v_0 n_1 h6)
 (fI (wrap .i64 (iadd n_1 (Int.ofNat 1))) fun n8 =>
 c (.func 40) [v_0, (.int .i64 n8)] h6 fun v9 h10 =>
 asI .u8 v9 fun n11 =>
 cnd (bnot (ibeq n11 (Int.ofNat 42)))
 (k (.tuple [(.int .i64 n_1), (.bool false)]) h10)
 (fI (wrap .i64 (iadd n_1 (Int.ofNat 2))) fun n12 =>
 J.a2 v_0 n12 h10)))
noncomputable def s27_1 (_c : Caller Prop FT) (k : KV) (J : J27) (v_0 : AV) (n_6 : Int) (h : H) : Prop :=
 lenV v_0 fun m13 =>
 joinB (fun k14 => gate true (iblt n_6 (Int.ofNat m13))
 (natI n_6 fun m17 =>
 elemA 3 m17 v_0 fun v18 =>
 fAddr 0 v18 fun v19 =>
 ld1 v19 h fun v20 =>
 asI .u8 v20 fun n21 =>
 k14 (bnot (ibeq n21 (Int.ofNat 10))) h)
 (k14 false h)) fun b16 h15 =>
 cnd b16
 (fI (wrap .i64 (iadd n_6 (Int.ofNat 1))) fun n22 =>
 J.a1 v_0 n22 h15)
 (k (.tuple [(.int .i64 n_6), (.bool false)]) h15)
noncomputable def s27_2 (c : Caller Prop FT) (k : KV) (J : J27) (v_0 : AV) (n_7 : Int) (h : H) : Prop :=
 lenV v_0 fun m23 =>
 cnd (iblt n_7 (Int.ofNat m23))
 (natI n_7 fun m24 =>
 elemA 3 m24 v_0 fun v25 =>
 fAddr 0 v25 fun v26 =>
 ld1 v26 h fun v27 =>
 asI .u8 v27 fun n28 =>
 joinB (fun k29 => gate true (ibeq n28 (Int.ofNat 42))
 (fI (wrap .i64 (iadd n_7 (Int.ofNat 1))) fun n32 =>
 c (.func 40) [v_0, (.int .i64 n32)] h fun v33 h34 =>
 asI .u8 v33 fun n35 =>
 k29 (ibeq n35 (Int.ofNat 47)) h34)
 (k29 false h)) fun b31 h30 =>
 cnd b31
 (fI (wrap .i64 (iadd n_7 (Int.ofNat 2))) fun n36 =>
 k (.tuple [(.int .i64 n36), (.bool false)]) h30)
 (fI (wrap .i64 (iadd n_7 (Int.ofNat 1))) fun n37 =>
 J.a2 v_0 n37 h30))
 (lenV v_0 fun m38 =>
 k (.tuple [(.int .i64 (Int.ofNat m38)), (.bool true)]) h)
noncomputable def z27 : J27 := ⟨fun _ _ _ => False, fun _ _ _ => False, fun _ _ _ => False⟩
noncomputable def r27 (c : Caller Prop FT) (k : KV) (m : Nat) : J27 := Nat.rec z27 (fun _ J => ⟨s27_0 c k J, s27_1 c k J, s27_2 c k J⟩) m
noncomputable def f27 (J : J27) : Jump := fun L f h => match L with
  | 0 => asI .i64 (f 1) fun n_1 => J.a0 (f 0) n_1 h
  | 1 => asI .i64 (f 6) fun n_6 => J.a1 (f 0) n_6 h
  | 2 => asI .i64 (f 7) fun n_7 => J.a2 (f 0) n_7 h
  | _ => False
noncomputable def d27 : Code := Option.rec .skip (fun c => c) Go.Proofs.Tryz.f27.body
noncomputable def q27 : Plans := []
noncomputable def u27 : Cuts := [(.root, 0), ((.l (.l (.r (.l (.r (.l (.r (.r .root)))))))), 1), ((.l (.r (.l (.r (.r (.r (.r .root))))))), 2)]
/- oxbow/oxbowref4.next -/
structure J28 where
  a0 : AV → Int → H → Prop
  a1 : AV → Int → H → Prop
  a2 : AV → Int → H → Prop
noncomputable def s28_0 (c : Caller Prop FT) (k : KV) (J : J28) (v_0 : AV) (n_1 : Int) (h : H) : Prop :=
 c (.func 41) [v_0, (.int .i64 n_1)] h fun v1 h2 =>
 asI .i64 v1 fun n3 =>
 cnd (ible (Int.ofNat 0) n3)
 (fI (wrap .i64 (iadd n_1 n3)) fun n4 =>
 c (.func 42) [v_0, (.int .i64 n4)] h2 fun v5 h6 =>
 asI .i64 v5 fun n7 =>
 joinB (fun k8 => gate true (iblt (Int.ofNat 0) n7)
 (fI (wrap .i64 (iadd n_1 n3)) fun n11 =>
 c (.func 40) [v_0, (.int .i64 n11)] h6 fun v12 h13 =>
 asI .u8 v12 fun n14 =>
 k8 (ibeq n14 (Int.ofNat 34)) h13)
 (k8 false h6)) fun b10 h9 =>
 cnd b10
 (k (.tuple [(.int .i64 (Int.ofNat 4)), (.int .i64 n7), (.bool false)]) h9)
 (cnd (iblt (Int.ofNat 0) n7)
 (k (.tuple [(.int .i64 (Int.ofNat 3)), (.int .i64 n7), (.bool false)]) h9)
 (cnd (ibeq n3 (Int.ofNat 0))
 (fI (wrap .i64 (iadd n_1 (Int.ofNat 1))) fun n15 =>
 k (.tuple [(.int .i64 (Int.ofNat 6)), (.int .i64 n15), (.bool true)]) h9)
 (J.a2 v_0 n_1 h9))))
 (J.a2 v_0 n_1 h2)
noncomputable def s28_1 (c : Caller Prop FT) (k : KV) (J : J28) (v_0 : AV) (n_9 : Int) (h : H) : Prop :=
 c (.func 40) [v_0, (.int .i64 n_9)] h fun v16 h17 =>
 asI .u8 v16 fun n18 =>
 c (.func 43) [(.int .u8 n18)] h17 fun v19 h20 =>
 asB v19 fun b21 =>
 joinB (fun k22 => gate false b21
 (c (.func 40) [v_0, (.int .i64 n_9)] h20 fun v25 h26 =>
 asI .u8 v25 fun n27 =>
 c (.func 44) [(.int .u8 n27)] h26 fun v28 h29 =>
 asB v28 fun b30 =>
 k22 b30 h29)
 (k22 true h20)) fun b24 h23 =>
 cnd b24
 (fI (wrap .i64 (iadd n_9 (Int.ofNat 1))) fun n31 =>
 J.a1 v_0 n31 h23)
 (k (.tuple [(.int .i64 (Int.ofNat 1)), (.int .i64 n_9), (.bool false)]) h23)
noncomputable def s28_2 (c : Caller Prop FT) (k : KV) (J : J28) (v_0 : AV) (n_1 : Int) (h : H) : Prop :=
 c (.func 40) [v_0, (.int .i64 n_1)] h fun v32 h33 =>
 asI .u8 v32 fun n34 =>
 c (.func 43) [(.int .u8 n34)] h33 fun v35 h36 =>
 asB v35 fun b37 =>
 cnd b37
 (fI (wrap .i64 (iadd n_1 (Int.ofNat 1))) fun n38 =>
 J.a1 v_0 n38 h36)
 (c (.func 45) [v_0, (.int .i64 n_1)] h36 fun v39 h40 =>
 asI .i64 v39 fun n41 =>
 cnd (iblt n_1 n41)
 (k (.tuple [(.int .i64 (Int.ofNat 2)), (.int .i64 n41), (.bool false)]) h40)
 (c (.func 46) [v_0, (.int .i64 n_1)] h40 fun v42 h43 =>
 asI .i64 v42 fun n44 =>
 cnd (iblt (Int.ofNat 0) n44)
 (fI (wrap .i64 (iadd n_1 n44)) fun n45 =>
 k (.tuple [(.int .i64 (Int.ofNat 5)), (.int .i64 n45), (.bool false)]) h43)
 (fI (wrap .i64 (iadd n_1 (Int.ofNat 1))) fun n46 =>
 k (.tuple [(.int .i64 (Int.ofNat 6)), (.int .i64 n46), (.bool false)]) h43)))
noncomputable def z28 : J28 := ⟨fun _ _ _ => False, fun _ _ _ => False, fun _ _ _ => False⟩
noncomputable def r28 (c : Caller Prop FT) (k : KV) (m : Nat) : J28 := Nat.rec z28 (fun _ J => ⟨s28_0 c k J, s28_1 c k J, s28_2 c k J⟩) m
noncomputable def f28 (J : J28) : Jump := fun L f h => match L with
  | 0 => asI .i64 (f 1) fun n_1 => J.a0 (f 0) n_1 h
  | 1 => asI .i64 (f 9) fun n_9 => J.a1 (f 0) n_9 h
  | 2 => asI .i64 (f 1) fun n_1 => J.a2 (f 0) n_1 h
  | _ => False
noncomputable def d28 : Code := Option.rec .skip (fun c => c) Go.Proofs.Tryz.f28.body
noncomputable def q28 : Plans := []
noncomputable def u28 : Cuts := [(.root, 0), ((.l (.l (.r (.l (.r (.l (.r (.r (.r .root))))))))), 1), ((.r (.r (.r .root))), 2)]
/- oxbow/oxbowref4.text -/
structure J29 where
  a0 : AV → H → Prop
  a1 : AV → AV → Int → H → Prop
noncomputable def s29_0 (_c : Caller Prop FT) (_k : KV) (J : J29) (v_0 : AV) (h : H) : Prop :=
 J.a1 v_0 .nils (Int.ofNat 0) h
noncomputable def s29_1 (_c : Caller Prop FT) (k : KV) (J : J29) (v_0 : AV) (v_3 : AV) (n_4 : Int) (h : H) : Prop :=
 lenV v_0 fun m1 =>
 cnd (iblt n_4 (Int.ofNat m1))
 (natI n_4 fun m2 =>
 elemA 3 m2 v_0 fun v3 =>
 fAddr 0 v3 fun v4 =>
 ld1 v4 h fun v5 =>
 asI .u8 v5 fun n6 =>
 oK (withElem env 37 (fun e ei => exBuildSlice 1 [(0, (.int .u8 n6))] h e ei)) fun v7 h8 =>
 oK (builtinA env .append [37, 37] [v_3, v7] h8) fun v9 h10 =>
 fI (wrap .i64 (iadd n_4 (Int.ofNat 1))) fun n11 =>
 J.a1 v_0 v9 n11 h10)
 (oK (convA env h 37 9 v_3) fun v12 h13 =>
 asS v12 fun l14 c15 =>
 k (.str l14 c15) h13)
noncomputable def z29 : J29 := ⟨fun _ _ => False, fun _ _ _ _ => False⟩
noncomputable def r29 (c : Caller Prop FT) (k : KV) (m : Nat) : J29 := Nat.rec z29 (fun _ J => ⟨s29_0 c k J, s29_1 c k J⟩) m
noncomputable def f29 (J : J29) : Jump := fun L f h => match L with
  | 0 => J.a0 (f 0) h
  | 1 => asI .i64 (f 4) fun n_4 => J.a1 (f 0) (f 3) n_4 h
  | _ => False
noncomputable def d29 : Code := Option.rec .skip (fun c => c) Go.Proofs.Tryz.f29.body
noncomputable def q29 : Plans := []
noncomputable def u29 : Cuts := [(.root, 0), ((.l (.r (.l (.r (.r .root))))), 1)]
/- strings.Trim -/
structure J30 where
  a0 : Nat → Nat → Nat → Nat → H → Prop
noncomputable def s30_0 (c : Caller Prop FT) (k : KV) (_J : J30) (l_0 : Nat) (c_0 : Nat) (l_1 : Nat) (c_1 : Nat) (h : H) : Prop :=
 joinB (fun k1 => gate false (strEq l_0 c_0 0 0)
 (k1 (strEq l_1 c_1 0 0) h)
 (k1 true h)) fun b3 h2 =>
 cnd b3
 (k (.str l_0 c_0) h2)
 (joinB (fun k4 => gate true (ibeq (Int.ofNat l_1) (Int.ofNat 1))
 (idxS l_1 c_1 0 fun m7 =>
 k4 (iblt (Int.ofNat m7) (Int.ofNat 128)) h2)
 (k4 false h2)) fun b6 h5 =>
 cnd b6
 (idxS l_1 c_1 0 fun m8 =>
 idxS l_1 c_1 0 fun m9 =>
 c (.func 48) [(.str l_0 c_0), (.int .u8 (Int.ofNat m8))] h5 fun v10 h11 =>
 asS v10 fun l12 c13 =>
 c (.func 47) [(.str l12 c13), (.int .u8 (Int.ofNat m9))] h11 fun v14 h15 =>
 asS v14 fun l16 c17 =>
 k (.str l16 c17) h15)
 (c (.func 49) [(.str l_1 c_1)] h5 fun v18 h19 =>
 ext 0 v18 fun v20 =>
 ext 1 v18 fun v21 =>
 asB v21 fun b22 =>
 Hp.newK h19 ob89 fun p23 h24 =>
 stn 256 (.ptr p23 0) v20 h24 fun h25 =>
 cnd b22
 (c (.func 51) [(.str l_0 c_0), (.ptr p23 0)] h25 fun v26 h27 =>
 asS v26 fun l28 c29 =>
 c (.func 50) [(.str l28 c29), (.ptr p23 0)] h27 fun v30 h31 =>
 asS v30 fun l32 c33 =>
 k (.str l32 c33) h31)
 (c (.func 53) [(.str l_0 c_0), (.str l_1 c_1)] h25 fun v34 h35 =>
 asS v34 fun l36 c37 =>
 c (.func 52) [(.str l36 c37), (.str l_1 c_1)] h35 fun v38 h39 =>
 asS v38 fun l40 c41 =>
 k (.str l40 c41) h39)))
noncomputable def z30 : J30 := ⟨fun _ _ _ _ _ => False⟩
noncomputable def r30 (c : Caller Prop FT) (k : KV) (m : Nat) : J30 := Nat.rec z30 (fun _ J => ⟨s30_0 c k J⟩) m
noncomputable def f30 (J : J30) : Jump := fun L f h => match L with
  | 0 => asS (f 0) fun l_0 c_0 => asS (f 1) fun l_1 c_1 => J.a0 l_0 c_0 l_1 c_1 h
  | _ => False
noncomputable def d30 : Code := Option.rec .skip (fun c => c) Go.Proofs.Tryz.f30.body
noncomputable def q30 : Plans := [(4, [0, 1, 2, 4, 5, 3, 6, 7])]
noncomputable def u30 : Cuts := [(.root, 0)]
/- strconv.Atoi -/
structure J31 where
  a0 : Nat → Nat → H → Prop
noncomputable def s31_0 (c : Caller Prop FT) (k : KV) (_J : J31) (l_0 : Nat) (c_0 : Nat) (h : H) : Prop :=
 c (.func 54) [(.str l_0 c_0)] h fun v1 h2 =>
 ext 0 v1 fun v3 =>
 asI .i64 v3 fun n4 =>
 ext 1 v1 fun v5 =>
 oV (binA env .neq 49 v5 .nili) fun v6 =>
 asB v6 fun b7 =>
 cnd b7
 (c (.func 55) [(.str 4 1768911937), (.str l_0 c_0), (.int .i64 (Int.ofNat 0)), (.int .i64 (Int.ofNat 0)), v5] h2 fun v8 h9 =>
 k (.tuple [(.int .i64 n4), v8]) h9)
 (k (.tuple [(.int .i64 n4), .nili]) h2)
noncomputable def z31 : J31 := ⟨fun _ _ _ => False⟩
noncomputable def r31 (c : Caller Prop FT) (k : KV) (m : Nat) : J31 := Nat.rec z31 (fun _ J => ⟨s31_0 c k J⟩) m
noncomputable def f31 (J : J31) : Jump := fun L f h => match L with
  | 0 => asS (f 0) fun l_0 c_0 => J.a0 l_0 c_0 h
  | _ => False
noncomputable def d31 : Code := Option.rec .skip (fun c => c) Go.Proofs.Tryz.f31.body
noncomputable def q31 : Plans := []
noncomputable def u31 : Cuts := [(.root, 0)]
/- internal/stringslite.HasPrefix -/
structure J32 where
  a0 : Nat → Nat → Nat → Nat → H → Prop
noncomputable def s32_0 (_c : Caller Prop FT) (k : KV) (_J : J32) (l_0 : Nat) (c_0 : Nat) (l_1 : Nat) (c_1 : Nat) (h : H) : Prop :=
 joinB (fun k1 => gate true (ible (Int.ofNat l_1) (Int.ofNat l_0))
 (cutS l_0 c_0 0 l_1 fun l4 c5 =>
 k1 (strEq l4 c5 l_1 c_1) h)
 (k1 false h)) fun b3 h2 =>
 k (.bool b3) h2
noncomputable def z32 : J32 := ⟨fun _ _ _ _ _ => False⟩
noncomputable def r32 (c : Caller Prop FT) (k : KV) (m : Nat) : J32 := Nat.rec z32 (fun _ J => ⟨s32_0 c k J⟩) m
noncomputable def f32 (J : J32) : Jump := fun L f h => match L with
  | 0 => asS (f 0) fun l_0 c_0 => asS (f 1) fun l_1 c_1 => J.a0 l_0 c_0 l_1 c_1 h
  | _ => False
noncomputable def d32 : Code := Option.rec .skip (fun c => c) Go.Proofs.Tryz.f32.body
noncomputable def q32 : Plans := []
noncomputable def u32 : Cuts := [(.root, 0)]
/- oxbow/pnum.Letters -/
structure J33 where
  a0 : Nat → Nat → H → Prop
  a1 : Nat → Nat → AV → Int → Int → H → Prop
noncomputable def s33_0 (_c : Caller Prop FT) (_k : KV) (J : J33) (l_0 : Nat) (c_0 : Nat) (h : H) : Prop :=
 oK (withElem env 33 (fun e ei => exBuildSlice 5 [(0, (.str 0 0)), (1, (.str 1 76)), (2, (.str 1 117)), (3, (.str 1 85)), (4, (.str 2 14453))] h e ei)) fun v1 h2 =>
 lenV v1 fun m3 =>
 J.a1 l_0 c_0 v1 (Int.ofNat m3) (Int.ofNat 0) h2
noncomputable def s33_1 (c : Caller Prop FT) (k : KV) (J : J33) (l_0 : Nat) (c_0 : Nat) (v_8 : AV) (n_9 : Int) (n_10 : Int) (h : H) : Prop :=
 cnd (iblt n_10 n_9)
 (natI n_10 fun m4 =>
 elemA 1 m4 v_8 fun v5 =>
 ld1 v5 h fun v6 =>
 asS v6 fun l7 c8 =>
 c (.func 22) [(.str l_0 c_0), (.str l7 c8)] h fun v9 h10 =>
 ext 0 v9 fun v11 =>
 asS v11 fun l12 c13 =>
 ext 1 v9 fun v14 =>
 asB v14 fun b15 =>
 joinB (fun k16 => gate true b15
 (k16 (bnot (strEq l12 c13 0 0)) h10)
 (k16 false h10)) fun b18 h17 =>
 joinB (fun k19 => gate true b18
 (idxS l12 c13 0 fun m22 =>
 joinB (fun k23 => gate false (ibeq (Int.ofNat m22) (Int.ofNat 34))
 (idxS l12 c13 0 fun m26 =>
 k23 (ibeq (Int.ofNat m26) (Int.ofNat 39)) h17)
 (k23 true h17)) fun b25 h24 =>
 k19 b25 h24)
 (k19 false h17)) fun b21 h20 =>
 cnd b21
 (k (.tuple [(.str l7 c8), (.bool true)]) h20)
 (fI (wrap .i64 (iadd n_10 (Int.ofNat 1))) fun n27 =>
 J.a1 l_0 c_0 v_8 n_9 n27 h20))
 (k (.tuple [(.str 0 0), (.bool false)]) h)
noncomputable def z33 : J33 := ⟨fun _ _ _ => False, fun _ _ _ _ _ _ => False⟩
noncomputable def r33 (c : Caller Prop FT) (k : KV) (m : Nat) : J33 := Nat.rec z33 (fun _ J => ⟨s33_0 c k J, s33_1 c k J⟩) m
noncomputable def f33 (J : J33) : Jump := fun L f h => match L with
  | 0 => asS (f 0) fun l_0 c_0 => J.a0 l_0 c_0 h
  | 1 => asS (f 0) fun l_0 c_0 => asI .i64 (f 9) fun n_9 => asI .i64 (f 10) fun n_10 => J.a1 l_0 c_0 (f 8) n_9 n_10 h
  | _ => False
noncomputable def d33 : Code := Option.rec .skip (fun c => c) Go.Proofs.Tryz.f33.body
noncomputable def q33 : Plans := []
noncomputable def u33 : Cuts := [(.root, 0), ((.l (.r (.l (.r .root)))), 1)]
/- oxbow/pnum.escape -/
structure J34 where
  a0 : Nat → Nat → H → Prop
  a1 : Int → Int → Int → AV → H → Prop
  a2 : Nat → Nat → Int → Int → Int → H → Prop
noncomputable def s34_0 (c : Caller Prop FT) (k : KV) (J : J34) (l_0 : Nat) (c_0 : Nat) (h : H) : Prop :=
 cnd (strEq l_0 c_0 0 0)
 (k (.tuple [(.int .u8 (Int.ofNat 0)), (.int .i64 (Int.ofNat 0))]) h)
 (idxS l_0 c_0 0 fun m1 =>
 c (.func 56) [(.str 11 143203152110517486444552743), (.int .u8 (Int.ofNat m1))] h fun v2 h3 =>
 asI .i64 v2 fun n4 =>
 cnd (ible (Int.ofNat 0) n4)
 (natI n4 fun m5 =>
 idxS 11 13340925845742173758104103 m5 fun m6 =>
 k (.tuple [(.int .u8 (Int.ofNat m6)), (.int .i64 (Int.ofNat 1))]) h3)
 (c (.func 57) [(.str l_0 c_0), (.str 8 3978425819141910832)] h3 fun v7 h8 =>
 asI .i64 v7 fun n9 =>
 oK (builtinA env .min [3, 3] [(.int .i64 n9), (.int .i64 (Int.ofNat 3))] h8) fun v10 h11 =>
 asI .i64 v10 fun n12 =>
 idxS l_0 c_0 0 fun m13 =>
 cnd (ibeq (Int.ofNat m13) (Int.ofNat 120))
 (cutS l_0 c_0 1 l_0 fun l14 c15 =>
 c (.func 57) [(.str l14 c15), (.str 22 26291342665239622251265189840170011249128153612955952)] h11 fun v16 h17 =>
 asI .i64 v16 fun n18 =>
 fI (wrap .i64 (iadd (Int.ofNat 1) n18)) fun n19 =>
 J.a2 l_0 c_0 n19 (Int.ofNat 16) (Int.ofNat 1) h17)
 (J.a2 l_0 c_0 n12 (Int.ofNat 8) (Int.ofNat 0) h11)))
noncomputable def s34_1 (c : Caller Prop FT) (k : KV) (J : J34) (n_5 : Int) (n_6 : Int) (n_8 : Int) (v_38 : AV) (h : H) : Prop :=
 oK (exNext v_38 true h) fun v20 h21 =>
 ext 0 v20 fun v22 =>
 asB v22 fun b23 =>
 cnd b23
 (ext 2 v20 fun v24 =>
 asI .i32 v24 fun n25 =>
 fI (wrap .i64 (n_8 * n_6)) fun n26 =>
 c (.func 59) [(.str 22 26291342665239622251265189840170011249128153612955952), (.int .i32 n25)] h21 fun v27 h28 =>
 asI .i64 v27 fun n29 =>
 fI (wrap .i64 (iadd n26 n29)) fun n30 =>
 bitI Nat.land .i64 n30 (Int.ofNat 4095) fun n31 =>
 J.a1 n_5 n_6 n31 v_38 h28)
 (fI (wrap .u8 n_8) fun n32 =>
 k (.tuple [(.int .u8 n32), (.int .i64 n_5)]) h21)
noncomputable def s34_2 (c : Caller Prop FT) (k : KV) (J : J34) (l_0 : Nat) (c_0 : Nat) (n_5 : Int) (n_6 : Int) (n_7 : Int) (h : H) : Prop :=
 cnd (ible n_5 n_7)
 (k (.tuple [(.int .u8 (Int.ofNat 0)), (.int .i64 (Int.ofNat 0))]) h)
 (natI n_5 fun m33 =>
 natI n_7 fun m34 =>
 cutS l_0 c_0 m34 m33 fun l35 c36 =>
 c (.func 58) [(.str l35 c36)] h fun v37 h38 =>
 asS v37 fun l39 c40 =>
 oK (exRange env 9 (.str l39 c40) h38) fun v41 h42 =>
 J.a1 n_5 n_6 (Int.ofNat 0) v41 h42)
noncomputable def z34 : J34 := ⟨fun _ _ _ => False, fun _ _ _ _ _ => False, fun _ _ _ _ _ _ => False⟩
noncomputable def r34 (c : Caller Prop FT) (k : KV) (m : Nat) : J34 := Nat.rec z34 (fun _ J => ⟨s34_0 c k J, s34_1 c k J, s34_2 c k J⟩) m
noncomputable def f34 (J : J34) : Jump := fun L f h => match L with
  | 0 => asS (f 0) fun l_0 c_0 => J.a0 l_0 c_0 h
  | 1 => asI .i64 (f 5) fun n_5 => asI .i64 (f 6) fun n_6 => asI .i64 (f 8) fun n_8 => J.a1 n_5 n_6 n_8 (f 38) h
  | 2 => asS (f 0) fun l_0 c_0 => asI .i64 (f 5) fun n_5 => asI .i64 (f 6) fun n_6 => asI .i64 (f 7) fun n_7 => J.a2 l_0 c_0 n_5 n_6 n_7 h
  | _ => False
noncomputable def d34 : Code := Option.rec .skip (fun c => c) Go.Proofs.Tryz.f34.body
noncomputable def q34 : Plans := []
noncomputable def u34 : Cuts := [(.root, 0), ((.l (.r (.l (.r (.r (.r (.r (.r (.r (.r .root)))))))))), 1), ((.r (.r (.r (.r (.r .root))))), 2)]
/- internal/stringslite.CutPrefix -/
structure J35 where
  a0 : Nat → Nat → Nat → Nat → H → Prop
noncomputable def s35_0 (c : Caller Prop FT) (k : KV) (_J : J35) (l_0 : Nat) (c_0 : Nat) (l_1 : Nat) (c_1 : Nat) (h : H) : Prop :=
 c (.func 32) [(.str l_0 c_0), (.str l_1 c_1)] h fun v1 h2 =>
 asB v1 fun b3 =>
 cnd (bnot b3)
 (k (.tuple [(.str l_0 c_0), (.bool false)]) h2)
 (cutS l_0 c_0 l_1 l_0 fun l4 c5 =>
 k (.tuple [(.str l4 c5), (.bool true)]) h2)
noncomputable def z35 : J35 := ⟨fun _ _ _ _ _ => False⟩
noncomputable def r35 (c : Caller Prop FT) (k : KV) (m : Nat) : J35 := Nat.rec z35 (fun _ J => ⟨s35_0 c k J⟩) m
noncomputable def f35 (J : J35) : Jump := fun L f h => match L with
  | 0 => asS (f 0) fun l_0 c_0 => asS (f 1) fun l_1 c_1 => J.a0 l_0 c_0 l_1 c_1 h
  | _ => False
noncomputable def d35 : Code := Option.rec .skip (fun c => c) Go.Proofs.Tryz.f35.body
noncomputable def q35 : Plans := []
noncomputable def u35 : Cuts := [(.root, 0)]
/- internal/stringslite.CutSuffix -/
structure J36 where
  a0 : Nat → Nat → Nat → Nat → H → Prop
noncomputable def s36_0 (c : Caller Prop FT) (k : KV) (_J : J36) (l_0 : Nat) (c_0 : Nat) (l_1 : Nat) (c_1 : Nat) (h : H) : Prop :=
 c (.func 60) [(.str l_0 c_0), (.str l_1 c_1)] h fun v1 h2 =>
 asB v1 fun b3 =>
 cnd (bnot b3)
 (k (.tuple [(.str l_0 c_0), (.bool false)]) h2)
 (fI (wrap .i64 (isub (Int.ofNat l_0) (Int.ofNat l_1))) fun n4 =>
 natI n4 fun m5 =>
 cutS l_0 c_0 0 m5 fun l6 c7 =>
 k (.tuple [(.str l6 c7), (.bool true)]) h2)
noncomputable def z36 : J36 := ⟨fun _ _ _ _ _ => False⟩
noncomputable def r36 (c : Caller Prop FT) (k : KV) (m : Nat) : J36 := Nat.rec z36 (fun _ J => ⟨s36_0 c k J⟩) m
noncomputable def f36 (J : J36) : Jump := fun L f h => match L with
  | 0 => asS (f 0) fun l_0 c_0 => asS (f 1) fun l_1 c_1 => J.a0 l_0 c_0 l_1 c_1 h
  | _ => False
noncomputable def d36 : Code := Option.rec .skip (fun c => c) Go.Proofs.Tryz.f36.body
noncomputable def q36 : Plans := []
noncomputable def u36 : Cuts := [(.root, 0)]
/- oxbow/oxbowref4.spliced -/
structure J38 where
  a0 : AV → H → Prop
  a1 : AV → AV → Int → H → Prop
  a2 : AV → AV → Int → H → Prop
noncomputable def s38_0 (_c : Caller Prop FT) (_k : KV) (J : J38) (v_0 : AV) (h : H) : Prop :=
 J.a1 v_0 .nils (Int.ofNat 0) h
noncomputable def s38_1 (_c : Caller Prop FT) (k : KV) (J : J38) (v_0 : AV) (v_3 : AV) (n_4 : Int) (h : H) : Prop :=
 lenV v_0 fun m1 =>
 cnd (iblt n_4 (Int.ofNat m1))
 (natI n_4 fun m2 =>
 elemA 3 m2 v_0 fun v3 =>
 fAddr 0 v3 fun v4 =>
 ld1 v4 h fun v5 =>
 asI .u8 v5 fun n6 =>
 joinB (fun k7 => gate true (ibeq n6 (Int.ofNat 92))
 (fI (wrap .i64 (iadd n_4 (Int.ofNat 1))) fun n10 =>
 lenV v_0 fun m11 =>
 k7 (iblt n10 (Int.ofNat m11)) h)
 (k7 false h)) fun b9 h8 =>
 joinB (fun k12 => gate true b9
 (fI (wrap .i64 (iadd n_4 (Int.ofNat 1))) fun n15 =>
 natI n15 fun m16 =>
 elemA 3 m16 v_0 fun v17 =>
 fAddr 0 v17 fun v18 =>
 ld1 v18 h8 fun v19 =>
 asI .u8 v19 fun n20 =>
 k12 (ibeq n20 (Int.ofNat 10)) h8)
 (k12 false h8)) fun b14 h13 =>
 cnd b14
 (fI (wrap .i64 (iadd n_4 (Int.ofNat 1))) fun n21 =>
 J.a2 v_0 v_3 n21 h13)
 (natI n_4 fun m22 =>
 elemA 3 m22 v_0 fun v23 =>
 ldn 3 v23 h13 fun v24 =>
 oK (withElem env 66 (fun e ei => exBuildSlice 1 [(0, v24)] h13 e ei)) fun v25 h26 =>
 oK (builtinA env .append [66, 66] [v_3, v25] h26) fun v27 h28 =>
 J.a2 v_0 v27 n_4 h28))
 (k v_3 h)
noncomputable def s38_2 (_c : Caller Prop FT) (_k : KV) (J : J38) (v_0 : AV) (v_3 : AV) (n_4 : Int) (h : H) : Prop :=
 fI (wrap .i64 (iadd n_4 (Int.ofNat 1))) fun n29 =>
 J.a1 v_0 v_3 n29 h
noncomputable def z38 : J38 := ⟨fun _ _ => False, fun _ _ _ _ => False, fun _ _ _ _ => False⟩
noncomputable def r38 (c : Caller Prop FT) (k : KV) (m : Nat) : J38 := Nat.rec z38 (fun _ J => ⟨s38_0 c k J, s38_1 c k J, s38_2 c k J⟩) m
noncomputable def f38 (J : J38) : Jump := fun L f h => match L with
  | 0 => J.a0 (f 0) h
  | 1 => asI .i64 (f 4) fun n_4 => J.a1 (f 0) (f 3) n_4 h
  | 2 => asI .i64 (f 4) fun n_4 => J.a2 (f 0) (f 3) n_4 h
  | _ => False
noncomputable def d38 : Code := Option.rec .skip (fun c => c) Go.Proofs.Tryz.f38.body
noncomputable def q38 : Plans := []
noncomputable def u38 : Cuts := [(.root, 0), ((.l (.r (.l (.r (.r .root))))), 1), ((.r (.r (.l (.l (.r (.l (.r (.r .root)))))))), 2)]
/- oxbow/oxbowref4.plain -/
structure J39 where
  a0 : Nat → Nat → H → Prop
  a1 : Nat → Nat → AV → Int → H → Prop
  a2 : Nat → Nat → AV → Int → H → Prop
noncomputable def s39_0 (_c : Caller Prop FT) (_k : KV) (J : J39) (l_0 : Nat) (c_0 : Nat) (h : H) : Prop :=
 J.a1 l_0 c_0 .nils (Int.ofNat 0) h
noncomputable def s39_1 (c : Caller Prop FT) (k : KV) (J : J39) (l_0 : Nat) (c_0 : Nat) (v_3 : AV) (n_4 : Int) (h : H) : Prop :=
 cnd (iblt n_4 (Int.ofNat l_0))
 (fI (wrap .i64 (iadd n_4 (Int.ofNat 2))) fun n1 =>
 joinB (fun k2 => gate true (iblt n1 (Int.ofNat l_0))
 (natI n_4 fun m5 =>
 idxS l_0 c_0 m5 fun m6 =>
 k2 (ibeq (Int.ofNat m6) (Int.ofNat 63)) h)
 (k2 false h)) fun b4 h3 =>
 joinB (fun k7 => gate true b4
 (fI (wrap .i64 (iadd n_4 (Int.ofNat 1))) fun n10 =>
 natI n10 fun m11 =>
 idxS l_0 c_0 m11 fun m12 =>
 k7 (ibeq (Int.ofNat m12) (Int.ofNat 63)) h3)
 (k7 false h3)) fun b9 h8 =>
 cnd b9
 (fI (wrap .i64 (iadd n_4 (Int.ofNat 2))) fun n13 =>
 natI n13 fun m14 =>
 idxS l_0 c_0 m14 fun m15 =>
 c (.func 61) [(.int .u8 (Int.ofNat m15))] h8 fun v16 h17 =>
 ext 0 v16 fun v18 =>
 asI .u8 v18 fun n19 =>
 ext 1 v16 fun v20 =>
 asB v20 fun b21 =>
 cnd b21
 (fI (wrap .i64 (iadd n_4 (Int.ofNat 3))) fun n22 =>
 oK (exBuild env (env.ty 69) [(0, (.int .u8 n19)), (1, (.int .i64 n_4)), (2, (.int .i64 n22))] h17) fun v23 h24 =>
 oK (withElem env 66 (fun e ei => exBuildSlice 1 [(0, v23)] h24 e ei)) fun v25 h26 =>
 oK (builtinA env .append [66, 66] [v_3, v25] h26) fun v27 h28 =>
 fI (wrap .i64 (iadd n_4 (Int.ofNat 3))) fun n29 =>
 J.a1 l_0 c_0 v27 n29 h28)
 (J.a2 l_0 c_0 v_3 n_4 h17))
 (J.a2 l_0 c_0 v_3 n_4 h8))
 (k v_3 h)
noncomputable def s39_2 (_c : Caller Prop FT) (_k : KV) (J : J39) (l_0 : Nat) (c_0 : Nat) (v_3 : AV) (n_4 : Int) (h : H) : Prop :=
 natI n_4 fun m30 =>
 idxS l_0 c_0 m30 fun m31 =>
 fI (wrap .i64 (iadd n_4 (Int.ofNat 1))) fun n32 =>
 oK (exBuild env (env.ty 69) [(0, (.int .u8 (Int.ofNat m31))), (1, (.int .i64 n_4)), (2, (.int .i64 n32))] h) fun v33 h34 =>
 oK (withElem env 66 (fun e ei => exBuildSlice 1 [(0, v33)] h34 e ei)) fun v35 h36 =>
 oK (builtinA env .append [66, 66] [v_3, v35] h36) fun v37 h38 =>
 fI (wrap .i64 (iadd n_4 (Int.ofNat 1))) fun n39 =>
 J.a1 l_0 c_0 v37 n39 h38
noncomputable def z39 : J39 := ⟨fun _ _ _ => False, fun _ _ _ _ _ => False, fun _ _ _ _ _ => False⟩
noncomputable def r39 (c : Caller Prop FT) (k : KV) (m : Nat) : J39 := Nat.rec z39 (fun _ J => ⟨s39_0 c k J, s39_1 c k J, s39_2 c k J⟩) m
noncomputable def f39 (J : J39) : Jump := fun L f h => match L with
  | 0 => asS (f 0) fun l_0 c_0 => J.a0 l_0 c_0 h
  | 1 => asS (f 0) fun l_0 c_0 => asI .i64 (f 4) fun n_4 => J.a1 l_0 c_0 (f 3) n_4 h
  | 2 => asS (f 0) fun l_0 c_0 => asI .i64 (f 4) fun n_4 => J.a2 l_0 c_0 (f 3) n_4 h
  | _ => False
noncomputable def d39 : Code := Option.rec .skip (fun c => c) Go.Proofs.Tryz.f39.body
noncomputable def q39 : Plans := []
noncomputable def u39 : Cuts := [(.root, 0), ((.l (.r (.l (.r (.r .root))))), 1), ((.r (.l (.r (.l (.l (.r (.l (.r (.r .root))))))))), 2)]
/- oxbow/oxbowref4.at -/
structure J40 where
  a0 : AV → Int → H → Prop
noncomputable def s40_0 (_c : Caller Prop FT) (k : KV) (_J : J40) (v_0 : AV) (n_1 : Int) (h : H) : Prop :=
 joinB (fun k1 => gate false (iblt n_1 (Int.ofNat 0))
 (lenV v_0 fun m4 =>
 k1 (ible (Int.ofNat m4) n_1) h)
 (k1 true h)) fun b3 h2 =>
 cnd b3
 (k (.int .u8 (Int.ofNat 0)) h2)
 (natI n_1 fun m5 =>
 elemA 3 m5 v_0 fun v6 =>
 fAddr 0 v6 fun v7 =>
 ld1 v7 h2 fun v8 =>
 asI .u8 v8 fun n9 =>
 k (.int .u8 n9) h2)
noncomputable def z40 : J40 := ⟨fun _ _ _ => False⟩
noncomputable def r40 (c : Caller Prop FT) (k : KV) (m : Nat) : J40 := Nat.rec z40 (fun _ J => ⟨s40_0 c k J⟩) m
noncomputable def f40 (J : J40) : Jump := fun L f h => match L with
  | 0 => asI .i64 (f 1) fun n_1 => J.a0 (f 0) n_1 h
  | _ => False
noncomputable def d40 : Code := Option.rec .skip (fun c => c) Go.Proofs.Tryz.f40.body
noncomputable def q40 : Plans := []
noncomputable def u40 : Cuts := [(.root, 0)]
/- oxbow/oxbowref4.letters -/
structure J41 where
  a0 : AV → Int → H → Prop
noncomputable def s41_0 (c : Caller Prop FT) (k : KV) (_J : J41) (v_0 : AV) (n_1 : Int) (h : H) : Prop :=
 c (.func 40) [v_0, (.int .i64 n_1)] h fun v1 h2 =>
 asI .u8 v1 fun n3 =>
 joinB (fun k4 => gate false (ibeq n3 (Int.ofNat 34))
 (k4 (ibeq n3 (Int.ofNat 39)) h2)
 (k4 true h2)) fun b6 h5 =>
 cnd b6
 (k (.int .i64 (Int.ofNat 0)) h5)
 (joinB (fun k7 => gate true (ibeq n3 (Int.ofNat 117))
 (fI (wrap .i64 (iadd n_1 (Int.ofNat 1))) fun n10 =>
 c (.func 40) [v_0, (.int .i64 n10)] h5 fun v11 h12 =>
 asI .u8 v11 fun n13 =>
 k7 (ibeq n13 (Int.ofNat 56)) h12)
 (k7 false h5)) fun b9 h8 =>
 joinB (fun k14 => gate true b9
 (fI (wrap .i64 (iadd n_1 (Int.ofNat 2))) fun n17 =>
 c (.func 40) [v_0, (.int .i64 n17)] h8 fun v18 h19 =>
 asI .u8 v18 fun n20 =>
 k14 (ibeq n20 (Int.ofNat 34)) h19)
 (k14 false h8)) fun b16 h15 =>
 cnd b16
 (k (.int .i64 (Int.ofNat 2)) h15)
 (joinB (fun k21 => gate false (ibeq n3 (Int.ofNat 76))
 (k21 (ibeq n3 (Int.ofNat 117)) h15)
 (k21 true h15)) fun b23 h22 =>
 joinB (fun k24 => gate false b23
 (k24 (ibeq n3 (Int.ofNat 85)) h22)
 (k24 true h22)) fun b26 h25 =>
 joinB (fun k27 => gate true b26
 (fI (wrap .i64 (iadd n_1 (Int.ofNat 1))) fun n30 =>
 c (.func 40) [v_0, (.int .i64 n30)] h25 fun v31 h32 =>
 asI .u8 v31 fun n33 =>
 joinB (fun k34 => gate false (ibeq n33 (Int.ofNat 34))
 (fI (wrap .i64 (iadd n_1 (Int.ofNat 1))) fun n37 =>
 c (.func 40) [v_0, (.int .i64 n37)] h32 fun v38 h39 =>
 asI .u8 v38 fun n40 =>
 k34 (ibeq n40 (Int.ofNat 39)) h39)
 (k34 true h32)) fun b36 h35 =>
 k27 b36 h35)
 (k27 false h25)) fun b29 h28 =>
 cnd b29
 (k (.int .i64 (Int.ofNat 1)) h28)
 (k (.int .i64 (Int.negSucc 0)) h28)))
noncomputable def z41 : J41 := ⟨fun _ _ _ => False⟩
noncomputable def r41 (c : Caller Prop FT) (k : KV) (m : Nat) : J41 := Nat.rec z41 (fun _ J => ⟨s41_0 c k J⟩) m
noncomputable def f41 (J : J41) : Jump := fun L f h => match L with
  | 0 => asI .i64 (f 1) fun n_1 => J.a0 (f 0) n_1 h
  | _ => False
noncomputable def d41 : Code := Option.rec .skip (fun c => c) Go.Proofs.Tryz.f41.body
noncomputable def q41 : Plans := []
noncomputable def u41 : Cuts := [(.root, 0)]
/- oxbow/oxbowref4.quoted -/
structure J42 where
  a0 : AV → Int → H → Prop
  a1 : AV → Int → Int → H → Prop
  a2 : AV → Int → Int → H → Prop
noncomputable def s42_0 (c : Caller Prop FT) (_k : KV) (J : J42) (v_0 : AV) (n_1 : Int) (h : H) : Prop :=
 c (.func 40) [v_0, (.int .i64 n_1)] h fun v1 h2 =>
 asI .u8 v1 fun n3 =>
 fI (wrap .i64 (iadd n_1 (Int.ofNat 1))) fun n4 =>
 J.a1 v_0 n3 n4 h2
noncomputable def s42_1 (_c : Caller Prop FT) (k : KV) (J : J42) (v_0 : AV) (n_5 : Int) (n_6 : Int) (h : H) : Prop :=
 lenV v_0 fun m5 =>
 joinB (fun k6 => gate true (iblt n_6 (Int.ofNat m5))
 (natI n_6 fun m9 =>
 elemA 3 m9 v_0 fun v10 =>
 fAddr 0 v10 fun v11 =>
 ld1 v11 h fun v12 =>
 asI .u8 v12 fun n13 =>
 k6 (bnot (ibeq n13 (Int.ofNat 10))) h)
 (k6 false h)) fun b8 h7 =>
 cnd b8
 (natI n_6 fun m14 =>
 elemA 3 m14 v_0 fun v15 =>
 fAddr 0 v15 fun v16 =>
 ld1 v16 h7 fun v17 =>
 asI .u8 v17 fun n18 =>
 joinB (fun k19 => gate true (ibeq n18 (Int.ofNat 92))
 (fI (wrap .i64 (iadd n_6 (Int.ofNat 1))) fun n22 =>
 lenV v_0 fun m23 =>
 k19 (iblt n22 (Int.ofNat m23)) h7)
 (k19 false h7)) fun b21 h20 =>
 joinB (fun k24 => gate true b21
 (fI (wrap .i64 (iadd n_6 (Int.ofNat 1))) fun n27 =>
 natI n27 fun m28 =>
 elemA 3 m28 v_0 fun v29 =>
 fAddr 0 v29 fun v30 =>
 ld1 v30 h20 fun v31 =>
 asI .u8 v31 fun n32 =>
 k24 (bnot (ibeq n32 (Int.ofNat 10))) h20)
 (k24 false h20)) fun b26 h25 =>
 cnd b26
 (fI (wrap .i64 (iadd n_6 (Int.ofNat 1))) fun n33 =>
 J.a2 v_0 n_5 n33 h25)
 (natI n_6 fun m34 =>
 elemA 3 m34 v_0 fun v35 =>
 fAddr 0 v35 fun v36 =>
 ld1 v36 h25 fun v37 =>
 asI .u8 v37 fun n38 =>
 cnd (ibeq n38 n_5)
 (fI (wrap .i64 (iadd n_6 (Int.ofNat 1))) fun n39 =>
 k (.int .i64 n39) h25)
 (J.a2 v_0 n_5 n_6 h25)))
 (k (.int .i64 (Int.ofNat 0)) h7)
noncomputable def s42_2 (_c : Caller Prop FT) (_k : KV) (J : J42) (v_0 : AV) (n_5 : Int) (n_6 : Int) (h : H) : Prop :=
 fI (wrap .i64 (iadd n_6 (Int.ofNat 1))) fun n40 =>
 J.a1 v_0 n_5 n40 h
noncomputable def z42 : J42 := ⟨fun _ _ _ => False, fun _ _ _ _ => False, fun _ _ _ _ => False⟩
noncomputable def r42 (c : Caller Prop FT) (k : KV) (m : Nat) : J42 := Nat.rec z42 (fun _ J => ⟨s42_0 c k J, s42_1 c k J, s42_2 c k J⟩) m
noncomputable def f42 (J : J42) : Jump := fun L f h => match L with
  | 0 => asI .i64 (f 1) fun n_1 => J.a0 (f 0) n_1 h
  | 1 => asI .u8 (f 5) fun n_5 => asI .i64 (f 6) fun n_6 => J.a1 (f 0) n_5 n_6 h
  | 2 => asI .u8 (f 5) fun n_5 => asI .i64 (f 6) fun n_6 => J.a2 (f 0) n_5 n_6 h
  | _ => False
noncomputable def d42 : Code := Option.rec .skip (fun c => c) Go.Proofs.Tryz.f42.body
noncomputable def q42 : Plans := []
noncomputable def u42 : Cuts := [(.root, 0), ((.l (.r (.l (.r (.r .root))))), 1), ((.r (.r (.l (.l (.r (.l (.r (.r .root)))))))), 2)]
/- oxbow/oxbowref4.Letter -/
structure J43 where
  a0 : Int → H → Prop
noncomputable def s43_0 (_c : Caller Prop FT) (k : KV) (_J : J43) (n_0 : Int) (h : H) : Prop :=
 joinB (fun k1 => gate true (ible (Int.ofNat 97) n_0)
 (k1 (ible n_0 (Int.ofNat 122)) h)
 (k1 false h)) fun b3 h2 =>
 joinB (fun k4 => gate false b3
 (joinB (fun k7 => gate true (ible (Int.ofNat 65) n_0)
 (k7 (ible n_0 (Int.ofNat 90)) h2)
 (k7 false h2)) fun b9 h8 =>
 k4 b9 h8)
 (k4 true h2)) fun b6 h5 =>
 joinB (fun k10 => gate false b6
 (k10 (ibeq n_0 (Int.ofNat 95)) h5)
 (k10 true h5)) fun b12 h11 =>
 k (.bool b12) h11
noncomputable def z43 : J43 := ⟨fun _ _ => False⟩
noncomputable def r43 (c : Caller Prop FT) (k : KV) (m : Nat) : J43 := Nat.rec z43 (fun _ J => ⟨s43_0 c k J⟩) m
noncomputable def f43 (J : J43) : Jump := fun L f h => match L with
  | 0 => asI .u8 (f 0) fun n_0 => J.a0 n_0 h
  | _ => False
noncomputable def d43 : Code := Option.rec .skip (fun c => c) Go.Proofs.Tryz.f43.body
noncomputable def q43 : Plans := []
noncomputable def u43 : Cuts := [(.root, 0)]
/- oxbow/oxbowref4.Digit -/
structure J44 where
  a0 : Int → H → Prop
noncomputable def s44_0 (_c : Caller Prop FT) (k : KV) (_J : J44) (n_0 : Int) (h : H) : Prop :=
 joinB (fun k1 => gate true (ible (Int.ofNat 48) n_0)
 (k1 (ible n_0 (Int.ofNat 57)) h)
 (k1 false h)) fun b3 h2 =>
 k (.bool b3) h2
noncomputable def z44 : J44 := ⟨fun _ _ => False⟩
noncomputable def r44 (c : Caller Prop FT) (k : KV) (m : Nat) : J44 := Nat.rec z44 (fun _ J => ⟨s44_0 c k J⟩) m
noncomputable def f44 (J : J44) : Jump := fun L f h => match L with
  | 0 => asI .u8 (f 0) fun n_0 => J.a0 n_0 h
  | _ => False
noncomputable def d44 : Code := Option.rec .skip (fun c => c) Go.Proofs.Tryz.f44.body
noncomputable def q44 : Plans := []
noncomputable def u44 : Cuts := [(.root, 0)]
/- oxbow/oxbowref4.number -/
structure J45 where
  a0 : AV → Int → H → Prop
  a1 : AV → Int → H → Prop
noncomputable def s45_0 (c : Caller Prop FT) (k : KV) (J : J45) (v_0 : AV) (n_1 : Int) (h : H) : Prop :=
 c (.func 40) [v_0, (.int .i64 n_1)] h fun v1 h2 =>
 asI .u8 v1 fun n3 =>
 c (.func 44) [(.int .u8 n3)] h2 fun v4 h5 =>
 asB v4 fun b6 =>
 joinB (fun k7 => gate true (bnot b6)
 (c (.func 40) [v_0, (.int .i64 n_1)] h5 fun v10 h11 =>
 asI .u8 v10 fun n12 =>
 joinB (fun k13 => gate false (bnot (ibeq n12 (Int.ofNat 46)))
 (fI (wrap .i64 (iadd n_1 (Int.ofNat 1))) fun n16 =>
 c (.func 40) [v_0, (.int .i64 n16)] h11 fun v17 h18 =>
 asI .u8 v17 fun n19 =>
 c (.func 44) [(.int .u8 n19)] h18 fun v20 h21 =>
 asB v20 fun b22 =>
 k13 (bnot b22) h21)
 (k13 true h11)) fun b15 h14 =>
 k7 b15 h14)
 (k7 false h5)) fun b9 h8 =>
 cnd b9
 (k (.int .i64 n_1) h8)
 (fI (wrap .i64 (iadd n_1 (Int.ofNat 1))) fun n23 =>
 J.a1 v_0 n23 h8)
noncomputable def s45_1 (c : Caller Prop FT) (k : KV) (J : J45) (v_0 : AV) (n_5 : Int) (h : H) : Prop :=
 c (.func 40) [v_0, (.int .i64 n_5)] h fun v24 h25 =>
 asI .u8 v24 fun n26 =>
 fI (wrap .i64 (iadd n_5 (Int.ofNat 1))) fun n27 =>
 c (.func 40) [v_0, (.int .i64 n27)] h25 fun v28 h29 =>
 asI .u8 v28 fun n30 =>
 joinB (fun k31 => gate false (ibeq n26 (Int.ofNat 101))
 (k31 (ibeq n26 (Int.ofNat 69)) h29)
 (k31 true h29)) fun b33 h32 =>
 joinB (fun k34 => gate false b33
 (k34 (ibeq n26 (Int.ofNat 112)) h32)
 (k34 true h32)) fun b36 h35 =>
 joinB (fun k37 => gate false b36
 (k37 (ibeq n26 (Int.ofNat 80)) h35)
 (k37 true h35)) fun b39 h38 =>
 joinB (fun k40 => gate true b39
 (joinB (fun k43 => gate false (ibeq n30 (Int.ofNat 43))
 (k43 (ibeq n30 (Int.ofNat 45)) h38)
 (k43 true h38)) fun b45 h44 =>
 k40 b45 h44)
 (k40 false h38)) fun b42 h41 =>
 cnd b42
 (fI (wrap .i64 (iadd n_5 (Int.ofNat 2))) fun n46 =>
 J.a1 v_0 n46 h41)
 (c (.func 43) [(.int .u8 n26)] h41 fun v47 h48 =>
 asB v47 fun b49 =>
 joinB (fun k50 => gate false b49
 (c (.func 44) [(.int .u8 n26)] h48 fun v53 h54 =>
 asB v53 fun b55 =>
 k50 b55 h54)
 (k50 true h48)) fun b52 h51 =>
 joinB (fun k56 => gate false b52
 (k56 (ibeq n26 (Int.ofNat 46)) h51)
 (k56 true h51)) fun b58 h57 =>
 cnd b58
 (fI (wrap .i64 (iadd n_5 (Int.ofNat 1))) fun n59 =>
 J.a1 v_0 n59 h57)
 (k (.int .i64 n_5) h57))
noncomputable def z45 : J45 := ⟨fun _ _ _ => False, fun _ _ _ => False⟩
noncomputable def r45 (c : Caller Prop FT) (k : KV) (m : Nat) : J45 := Nat.rec z45 (fun _ J => ⟨s45_0 c k J, s45_1 c k J⟩) m
noncomputable def f45 (J : J45) : Jump := fun L f h => match L with
  | 0 => asI .i64 (f 1) fun n_1 => J.a0 (f 0) n_1 h
  | 1 => asI .i64 (f 5) fun n_5 => J.a1 (f 0) n_5 h
  | _ => False
noncomputable def d45 : Code := Option.rec .skip (fun c => c) Go.Proofs.Tryz.f45.body
noncomputable def q45 : Plans := []
noncomputable def u45 : Cuts := [(.root, 0), ((.l (.r (.r (.r .root)))), 1)]
/- oxbow/oxbowref4.punct -/
structure J46 where
  a0 : AV → Int → H → Prop
  a1 : AV → Int → AV → Int → H → Prop
  a2 : AV → Int → AV → Int → Int → H → Prop
noncomputable def s46_0 (c : Caller Prop FT) (_k : KV) (J : J46) (v_0 : AV) (n_1 : Int) (h : H) : Prop :=
 c (.func 62) [] h fun v1 h2 =>
 J.a1 v_0 n_1 v1 (Int.ofNat 0) h2
noncomputable def s46_1 (_c : Caller Prop FT) (k : KV) (J : J46) (v_0 : AV) (n_1 : Int) (v_5 : AV) (n_6 : Int) (h : H) : Prop :=
 lenV v_5 fun m3 =>
 cnd (iblt n_6 (Int.ofNat m3))
 (J.a2 v_0 n_1 v_5 n_6 (Int.ofNat 0) h)
 (k (.int .i64 (Int.ofNat 0)) h)
noncomputable def s46_2 (c : Caller Prop FT) (k : KV) (J : J46) (v_0 : AV) (n_1 : Int) (v_5 : AV) (n_6 : Int) (n_7 : Int) (h : H) : Prop :=
 natI n_6 fun m4 =>
 elemA 1 m4 v_5 fun v5 =>
 ld1 v5 h fun v6 =>
 asS v6 fun l7 _ =>
 joinB (fun k9 => gate true (iblt n_7 (Int.ofNat l7))
 (fI (wrap .i64 (iadd n_1 n_7)) fun n12 =>
 natI n_6 fun m13 =>
 elemA 1 m13 v_5 fun v14 =>
 ld1 v14 h fun v15 =>
 asS v15 fun l16 c17 =>
 natI n_7 fun m18 =>
 idxS l16 c17 m18 fun m19 =>
 c (.func 40) [v_0, (.int .i64 n12)] h fun v20 h21 =>
 asI .u8 v20 fun n22 =>
 ld1 v14 h21 fun v23 =>
 asS v23 fun l24 c25 =>
 eqC (.str l24 c25) (.str l16 c17) <|
 k9 (ibeq n22 (Int.ofNat m19)) h21)
 (k9 false h)) fun b11 h10 =>
 cnd b11
 (fI (wrap .i64 (iadd n_7 (Int.ofNat 1))) fun n26 =>
 J.a2 v_0 n_1 v_5 n_6 n26 h10)
 (natI n_6 fun m27 =>
 elemA 1 m27 v_5 fun v28 =>
 ld1 v28 h10 fun v29 =>
 asS v29 fun l30 _ =>
 cnd (ibeq n_7 (Int.ofNat l30))
 (k (.int .i64 n_7) h10)
 (fI (wrap .i64 (iadd n_6 (Int.ofNat 1))) fun n32 =>
 J.a1 v_0 n_1 v_5 n32 h10))
noncomputable def z46 : J46 := ⟨fun _ _ _ => False, fun _ _ _ _ _ => False, fun _ _ _ _ _ _ => False⟩
noncomputable def r46 (c : Caller Prop FT) (k : KV) (m : Nat) : J46 := Nat.rec z46 (fun _ J => ⟨s46_0 c k J, s46_1 c k J, s46_2 c k J⟩) m
noncomputable def f46 (J : J46) : Jump := fun L f h => match L with
  | 0 => asI .i64 (f 1) fun n_1 => J.a0 (f 0) n_1 h
  | 1 => asI .i64 (f 1) fun n_1 => asI .i64 (f 6) fun n_6 => J.a1 (f 0) n_1 (f 5) n_6 h
  | 2 => asI .i64 (f 1) fun n_1 => asI .i64 (f 6) fun n_6 => asI .i64 (f 7) fun n_7 => J.a2 (f 0) n_1 (f 5) n_6 n_7 h
  | _ => False
noncomputable def d46 : Code := Option.rec .skip (fun c => c) Go.Proofs.Tryz.f46.body
noncomputable def q46 : Plans := [(6, [0, 1, 2, 3, 4, 5, 6, 7, 8, 9, 10, 11, 13, 14, 15, 16, 17, 18, 12, 19, 20])]
noncomputable def u46 : Cuts := [(.root, 0), ((.l (.r (.l (.r (.r .root))))), 1), ((.l (.l (.r (.l (.l (.r (.l (.l (.r (.l (.r (.r .root)))))))))))), 2)]
/- strings.trimLeftByte -/
structure J47 where
  a0 : Nat → Nat → Int → H → Prop
  a1 : Nat → Nat → Int → H → Prop
noncomputable def s47_0 (_c : Caller Prop FT) (_k : KV) (J : J47) (l_0 : Nat) (c_0 : Nat) (n_1 : Int) (h : H) : Prop :=
 J.a1 l_0 c_0 n_1 h
noncomputable def s47_1 (_c : Caller Prop FT) (k : KV) (J : J47) (l_0 : Nat) (c_0 : Nat) (n_1 : Int) (h : H) : Prop :=
 joinB (fun k1 => gate true (iblt (Int.ofNat 0) (Int.ofNat l_0))
 (idxS l_0 c_0 0 fun m4 =>
 k1 (ibeq (Int.ofNat m4) n_1) h)
 (k1 false h)) fun b3 h2 =>
 cnd b3
 (cutS l_0 c_0 1 l_0 fun l5 c6 =>
 J.a1 l5 c6 n_1 h2)
 (k (.str l_0 c_0) h2)
noncomputable def z47 : J47 := ⟨fun _ _ _ _ => False, fun _ _ _ _ => False⟩
noncomputable def r47 (c : Caller Prop FT) (k : KV) (m : Nat) : J47 := Nat.rec z47 (fun _ J => ⟨s47_0 c k J, s47_1 c k J⟩) m
noncomputable def f47 (J : J47) : Jump := fun L f h => match L with
  | 0 => asS (f 0) fun l_0 c_0 => asI .u8 (f 1) fun n_1 => J.a0 l_0 c_0 n_1 h
  | 1 => asS (f 0) fun l_0 c_0 => asI .u8 (f 1) fun n_1 => J.a1 l_0 c_0 n_1 h
  | _ => False
noncomputable def d47 : Code := Option.rec .skip (fun c => c) Go.Proofs.Tryz.f47.body
noncomputable def q47 : Plans := []
noncomputable def u47 : Cuts := [(.root, 0), ((.l (.l (.r .root))), 1)]
/- strings.trimRightByte -/
structure J48 where
  a0 : Nat → Nat → Int → H → Prop
  a1 : Nat → Nat → Int → H → Prop
noncomputable def s48_0 (_c : Caller Prop FT) (_k : KV) (J : J48) (l_0 : Nat) (c_0 : Nat) (n_1 : Int) (h : H) : Prop :=
 J.a1 l_0 c_0 n_1 h
noncomputable def s48_1 (_c : Caller Prop FT) (k : KV) (J : J48) (l_0 : Nat) (c_0 : Nat) (n_1 : Int) (h : H) : Prop :=
 joinB (fun k1 => gate true (iblt (Int.ofNat 0) (Int.ofNat l_0))
 (fI (wrap .i64 (isub (Int.ofNat l_0) (Int.ofNat 1))) fun n4 =>
 natI n4 fun m5 =>
 idxS l_0 c_0 m5 fun m6 =>
 k1 (ibeq (Int.ofNat m6) n_1) h)
 (k1 false h)) fun b3 h2 =>
 cnd b3
 (fI (wrap .i64 (isub (Int.ofNat l_0) (Int.ofNat 1))) fun n7 =>
 natI n7 fun m8 =>
 cutS l_0 c_0 0 m8 fun l9 c10 =>
 J.a1 l9 c10 n_1 h2)
 (k (.str l_0 c_0) h2)
noncomputable def z48 : J48 := ⟨fun _ _ _ _ => False, fun _ _ _ _ => False⟩
noncomputable def r48 (c : Caller Prop FT) (k : KV) (m : Nat) : J48 := Nat.rec z48 (fun _ J => ⟨s48_0 c k J, s48_1 c k J⟩) m
noncomputable def f48 (J : J48) : Jump := fun L f h => match L with
  | 0 => asS (f 0) fun l_0 c_0 => asI .u8 (f 1) fun n_1 => J.a0 l_0 c_0 n_1 h
  | 1 => asS (f 0) fun l_0 c_0 => asI .u8 (f 1) fun n_1 => J.a1 l_0 c_0 n_1 h
  | _ => False
noncomputable def d48 : Code := Option.rec .skip (fun c => c) Go.Proofs.Tryz.f48.body
noncomputable def q48 : Plans := []
noncomputable def u48 : Cuts := [(.root, 0), ((.l (.l (.r .root))), 1)]
/- strings.makeASCIISet -/
structure J49 where
  a0 : Nat → Nat → H → Prop
  a1 : Nat → Nat → AV → Int → H → Prop
noncomputable def s49_0 (_c : Caller Prop FT) (_k : KV) (J : J49) (l_0 : Nat) (c_0 : Nat) (h : H) : Prop :=
 Hp.newK h ob89 fun p1 h2 =>
 J.a1 l_0 c_0 (.ptr p1 0) (Int.ofNat 0) h2
noncomputable def s49_1 (_c : Caller Prop FT) (k : KV) (J : J49) (l_0 : Nat) (c_0 : Nat) (v_2 : AV) (n_4 : Int) (h : H) : Prop :=
 cnd (iblt n_4 (Int.ofNat l_0))
 (natI n_4 fun m3 =>
 idxS l_0 c_0 m3 fun m4 =>
 cnd (ible (Int.ofNat 128) (Int.ofNat m4))
 (ldn 256 v_2 h fun v5 =>
 stn 256 v_2 v5 h fun h6 =>
 ldn 256 v_2 h6 fun v7 =>
 k (.tuple [v7, (.bool false)]) h6)
 (oK (exIndexAddr env 89 v_2 (natOf (.int .u8 (Int.ofNat m4))) h) fun v8 h9 =>
 st1 v8 (.bool true) h9 fun h10 =>
 fI (wrap .i64 (iadd n_4 (Int.ofNat 1))) fun n11 =>
 J.a1 l_0 c_0 v_2 n11 h10))
 (ldn 256 v_2 h fun v12 =>
 stn 256 v_2 v12 h fun h13 =>
 ldn 256 v_2 h13 fun v14 =>
 k (.tuple [v14, (.bool true)]) h13)
noncomputable def z49 : J49 := ⟨fun _ _ _ => False, fun _ _ _ _ _ => False⟩
noncomputable def r49 (c : Caller Prop FT) (k : KV) (m : Nat) : J49 := Nat.rec z49 (fun _ J => ⟨s49_0 c k J, s49_1 c k J⟩) m
noncomputable def f49 (J : J49) : Jump := fun L f h => match L with
  | 0 => asS (f 0) fun l_0 c_0 => J.a0 l_0 c_0 h
  | 1 => asS (f 0) fun l_0 c_0 => asI .i64 (f 4) fun n_4 => J.a1 l_0 c_0 (f 2) n_4 h
  | _ => False
noncomputable def d49 : Code := Option.rec .skip (fun c => c) Go.Proofs.Tryz.f49.body
noncomputable def q49 : Plans := []
noncomputable def u49 : Cuts := [(.root, 0), ((.l (.r (.l (.r .root)))), 1)]
/- strings.trimLeftASCII -/
structure J50 where
  a0 : Nat → Nat → AV → H → Prop
  a1 : Nat → Nat → AV → H → Prop
noncomputable def s50_0 (_c : Caller Prop FT) (_k : KV) (J : J50) (l_0 : Nat) (c_0 : Nat) (v_1 : AV) (h : H) : Prop :=
 J.a1 l_0 c_0 v_1 h
noncomputable def s50_1 (c : Caller Prop FT) (k : KV) (J : J50) (l_0 : Nat) (c_0 : Nat) (v_1 : AV) (h : H) : Prop :=
 cnd (iblt (Int.ofNat 0) (Int.ofNat l_0))
 (idxS l_0 c_0 0 fun m1 =>
 c (.func 63) [v_1, (.int .u8 (Int.ofNat m1))] h fun v2 h3 =>
 asB v2 fun b4 =>
 cnd (bnot b4)
 (k (.str l_0 c_0) h3)
 (cutS l_0 c_0 1 l_0 fun l5 c6 =>
 J.a1 l5 c6 v_1 h3))
 (k (.str l_0 c_0) h)
noncomputable def z50 : J50 := ⟨fun _ _ _ _ => False, fun _ _ _ _ => False⟩
noncomputable def r50 (c : Caller Prop FT) (k : KV) (m : Nat) : J50 := Nat.rec z50 (fun _ J => ⟨s50_0 c k J, s50_1 c k J⟩) m
noncomputable def f50 (J : J50) : Jump := fun L f h => match L with
  | 0 => asS (f 0) fun l_0 c_0 => J.a0 l_0 c_0 (f 1) h
  | 1 => asS (f 0) fun l_0 c_0 => J.a1 l_0 c_0 (f 1) h
  | _ => False
noncomputable def d50 : Code := Option.rec .skip (fun c => c) Go.Proofs.Tryz.f50.body
noncomputable def q50 : Plans := []
noncomputable def u50 : Cuts := [(.root, 0), ((.l (.l (.r .root))), 1)]
/- strings.trimRightASCII -/
structure J51 where
  a0 : Nat → Nat → AV → H → Prop
  a1 : Nat → Nat → AV → H → Prop
noncomputable def s51_0 (_c : Caller Prop FT) (_k : KV) (J : J51) (l_0 : Nat) (c_0 : Nat) (v_1 : AV) (h : H) : Prop :=
 J.a1 l_0 c_0 v_1 h
noncomputable def s51_1 (c : Caller Prop FT) (k : KV) (J : J51) (l_0 : Nat) (c_0 : Nat) (v_1 : AV) (h : H) : Prop :=
 cnd (iblt (Int.ofNat 0) (Int.ofNat l_0))
 (fI (wrap .i64 (isub (Int.ofNat l_0) (Int.ofNat 1))) fun n1 =>
 natI n1 fun m2 =>
 idxS l_0 c_0 m2 fun m3 =>
 c (.func 63) [v_1, (.int .u8 (Int.ofNat m3))] h fun v4 h5 =>
 asB v4 fun b6 =>
 cnd (bnot b6)
 (k (.str l_0 c_0) h5)
 (fI (wrap .i64 (isub (Int.ofNat l_0) (Int.ofNat 1))) fun n7 =>
 natI n7 fun m8 =>
 cutS l_0 c_0 0 m8 fun l9 c10 =>
 J.a1 l9 c10 v_1 h5))
 (k (.str l_0 c_0) h)
noncomputable def z51 : J51 := ⟨fun _ _ _ _ => False, fun _ _ _ _ => False⟩
noncomputable def r51 (c : Caller Prop FT) (k : KV) (m : Nat) : J51 := Nat.rec z51 (fun _ J => ⟨s51_0 c k J, s51_1 c k J⟩) m
noncomputable def f51 (J : J51) : Jump := fun L f h => match L with
  | 0 => asS (f 0) fun l_0 c_0 => J.a0 l_0 c_0 (f 1) h
  | 1 => asS (f 0) fun l_0 c_0 => J.a1 l_0 c_0 (f 1) h
  | _ => False
noncomputable def d51 : Code := Option.rec .skip (fun c => c) Go.Proofs.Tryz.f51.body
noncomputable def q51 : Plans := []
noncomputable def u51 : Cuts := [(.root, 0), ((.l (.l (.r .root))), 1)]
/- strings.trimLeftUnicode -/
/- strings.trimRightUnicode -/
/- internal/strconv.Atoi -/
structure J54 where
  a0 : Nat → Nat → H → Prop
  a1 : Nat → Nat → Int → AV → Int → Int → H → Prop
  a2 : Int → H → Prop
  a3 : Nat → Nat → Nat → Nat → H → Prop
noncomputable def s54_0 (c : Caller Prop FT) (k : KV) (J : J54) (l_0 : Nat) (c_0 : Nat) (h : H) : Prop :=
 joinB (fun k1 => gate true false
 (joinB (fun k4 => gate true (iblt (Int.ofNat 0) (Int.ofNat l_0))
 (k4 (iblt (Int.ofNat l_0) (Int.ofNat 10)) h)
 (k4 false h)) fun b6 h5 =>
 k1 b6 h5)
 (k1 false h)) fun b3 h2 =>
 joinB (fun k7 => gate false b3
 (joinB (fun k10 => gate true true
 (joinB (fun k13 => gate true (iblt (Int.ofNat 0) (Int.ofNat l_0))
 (k13 (iblt (Int.ofNat l_0) (Int.ofNat 19)) h2)
 (k13 false h2)) fun b15 h14 =>
 k10 b15 h14)
 (k10 false h2)) fun b12 h11 =>
 k7 b12 h11)
 (k7 true h2)) fun b9 h8 =>
 cnd b9
 (idxS l_0 c_0 0 fun m16 =>
 joinB (fun k17 => gate false (ibeq (Int.ofNat m16) (Int.ofNat 45))
 (idxS l_0 c_0 0 fun m20 =>
 k17 (ibeq (Int.ofNat m20) (Int.ofNat 43)) h8)
 (k17 true h8)) fun b19 h18 =>
 cnd b19
 (cutS l_0 c_0 1 l_0 fun l21 c22 =>
 cnd (iblt (Int.ofNat l21) (Int.ofNat 1))
 (k (.tuple [(.int .i64 (Int.ofNat 0)), (.iface 105 (.int .i64 (Int.ofNat 2)))]) h18)
 (J.a3 l21 c22 l_0 c_0 h18))
 (J.a3 l_0 c_0 l_0 c_0 h18))
 (c (.func 67) [(.str l_0 c_0), (.int .i64 (Int.ofNat 10)), (.int .i64 (Int.ofNat 0))] h8 fun v23 h24 =>
 ext 0 v23 fun v25 =>
 asI .i64 v25 fun n26 =>
 ext 1 v23 fun v27 =>
 k (.tuple [(.int .i64 n26), v27]) h24)
noncomputable def s54_1 (_c : Caller Prop FT) (k : KV) (J : J54) (l_5 : Nat) (c_5 : Nat) (n_6 : Int) (v_47 : AV) (n_48 : Int) (n_49 : Int) (h : H) : Prop :=
 cnd (iblt n_49 n_48)
 (natI n_49 fun m28 =>
 elemA 1 m28 v_47 fun v29 =>
 ld1 v29 h fun v30 =>
 asI .u8 v30 fun n31 =>
 fI (wrap .u8 (isub n31 (Int.ofNat 48))) fun n32 =>
 cnd (iblt (Int.ofNat 9) n32)
 (k (.tuple [(.int .i64 (Int.ofNat 0)), (.iface 105 (.int .i64 (Int.ofNat 2)))]) h)
 (fI (wrap .i64 (n_6 * (Int.ofNat 10))) fun n33 =>
 fI (wrap .i64 n32) fun n34 =>
 fI (wrap .i64 (iadd n33 n34)) fun n35 =>
 fI (wrap .i64 (iadd n_49 (Int.ofNat 1))) fun n36 =>
 J.a1 l_5 c_5 n35 v_47 n_48 n36 h))
 (idxS l_5 c_5 0 fun m37 =>
 cnd (ibeq (Int.ofNat m37) (Int.ofNat 45))
 (oV (unA .neg (.int .i64 n_6)) fun v38 =>
 asI .i64 v38 fun n39 =>
 J.a2 n39 h)
 (J.a2 n_6 h))
noncomputable def s54_2 (_c : Caller Prop FT) (k : KV) (_J : J54) (n_6 : Int) (h : H) : Prop :=
 k (.tuple [(.int .i64 n_6), .nili]) h
noncomputable def s54_3 (_c : Caller Prop FT) (_k : KV) (J : J54) (l_0 : Nat) (c_0 : Nat) (l_5 : Nat) (c_5 : Nat) (h : H) : Prop :=
 oK (convA env h 9 37 (.str l_0 c_0)) fun v40 h41 =>
 lenV v40 fun m42 =>
 J.a1 l_5 c_5 (Int.ofNat 0) v40 (Int.ofNat m42) (Int.ofNat 0) h41
noncomputable def z54 : J54 := ⟨fun _ _ _ => False, fun _ _ _ _ _ _ _ => False, fun _ _ => False, fun _ _ _ _ _ => False⟩
noncomputable def r54 (c : Caller Prop FT) (k : KV) (m : Nat) : J54 := Nat.rec z54 (fun _ J => ⟨s54_0 c k J, s54_1 c k J, s54_2 c k J, s54_3 c k J⟩) m
noncomputable def f54 (J : J54) : Jump := fun L f h => match L with
  | 0 => asS (f 0) fun l_0 c_0 => J.a0 l_0 c_0 h
  | 1 => asS (f 5) fun l_5 c_5 => asI .i64 (f 6) fun n_6 => asI .i64 (f 48) fun n_48 => asI .i64 (f 49) fun n_49 => J.a1 l_5 c_5 n_6 (f 47) n_48 n_49 h
  | 2 => asI .i64 (f 6) fun n_6 => J.a2 n_6 h
  | 3 => asS (f 0) fun l_0 c_0 => asS (f 5) fun l_5 c_5 => J.a3 l_0 c_0 l_5 c_5 h
  | _ => False
noncomputable def d54 : Code := Option.rec .skip (fun c => c) Go.Proofs.Tryz.f54.body
noncomputable def q54 : Plans := []
noncomputable def u54 : Cuts := [(.root, 0), ((.l (.r (.l (.r (.r (.r (.l (.r (.l (.r (.r .root))))))))))), 1), ((.r (.r (.r (.r (.r (.l (.r (.l (.r (.r .root)))))))))), 2), ((.r (.r (.l (.r (.l (.r (.r .root))))))), 3)]
/- strconv.toError -/
/- strings.IndexByte -/
structure J56 where
  a0 : Nat → Nat → Int → H → Prop
noncomputable def s56_0 (c : Caller Prop FT) (k : KV) (_J : J56) (l_0 : Nat) (c_0 : Nat) (n_1 : Int) (h : H) : Prop :=
 c (.func 72) [(.str l_0 c_0), (.int .u8 n_1)] h fun v1 h2 =>
 asI .i64 v1 fun n3 =>
 k (.int .i64 n3) h2
noncomputable def z56 : J56 := ⟨fun _ _ _ _ => False⟩
noncomputable def r56 (c : Caller Prop FT) (k : KV) (m : Nat) : J56 := Nat.rec z56 (fun _ J => ⟨s56_0 c k J⟩) m
noncomputable def f56 (J : J56) : Jump := fun L f h => match L with
  | 0 => asS (f 0) fun l_0 c_0 => asI .u8 (f 1) fun n_1 => J.a0 l_0 c_0 n_1 h
  | _ => False
noncomputable def d56 : Code := Option.rec .skip (fun c => c) Go.Proofs.Tryz.f56.body
noncomputable def q56 : Plans := []
noncomputable def u56 : Cuts := [(.root, 0)]
/- oxbow/pnum.run -/
structure J57 where
  a0 : Nat → Nat → Nat → Nat → H → Prop
noncomputable def s57_0 (c : Caller Prop FT) (k : KV) (_J : J57) (l_0 : Nat) (c_0 : Nat) (l_1 : Nat) (c_1 : Nat) (h : H) : Prop :=
 c (.func 73) [(.str l_0 c_0), (.str l_1 c_1)] h fun v1 h2 =>
 asS v1 fun l3 _ =>
 fI (wrap .i64 (isub (Int.ofNat l_0) (Int.ofNat l3))) fun n5 =>
 k (.int .i64 n5) h2
noncomputable def z57 : J57 := ⟨fun _ _ _ _ _ => False⟩
noncomputable def r57 (c : Caller Prop FT) (k : KV) (m : Nat) : J57 := Nat.rec z57 (fun _ J => ⟨s57_0 c k J⟩) m
noncomputable def f57 (J : J57) : Jump := fun L f h => match L with
  | 0 => asS (f 0) fun l_0 c_0 => asS (f 1) fun l_1 c_1 => J.a0 l_0 c_0 l_1 c_1 h
  | _ => False
noncomputable def d57 : Code := Option.rec .skip (fun c => c) Go.Proofs.Tryz.f57.body
noncomputable def q57 : Plans := []
noncomputable def u57 : Cuts := [(.root, 0)]
/- strings.ToLower -/
structure J58 where
  a0 : Nat → Nat → H → Prop
  a1 : Nat → Nat → Bool → Bool → Int → H → Prop
  a2 : Nat → Nat → AV → Int → Int → H → Prop
  a3 : Nat → Nat → AV → Int → Int → H → Prop
  a4 : Nat → Nat → AV → Int → Int → H → Prop
  a5 : Nat → Nat → Bool → Bool → H → Prop
noncomputable def s58_0 (_c : Caller Prop FT) (_k : KV) (J : J58) (l_0 : Nat) (c_0 : Nat) (h : H) : Prop :=
 J.a1 l_0 c_0 true false (Int.ofNat 0) h
noncomputable def s58_1 (_c : Caller Prop FT) (_k : KV) (J : J58) (l_0 : Nat) (c_0 : Nat) (b_3 : Bool) (b_4 : Bool) (n_5 : Int) (h : H) : Prop :=
 cnd (iblt n_5 (Int.ofNat l_0))
 (natI n_5 fun m1 =>
 idxS l_0 c_0 m1 fun m2 =>
 cnd (ible (Int.ofNat 128) (Int.ofNat m2))
 (J.a5 l_0 c_0 false b_4 h)
 (joinB (fun k3 => gate false b_4
 (joinB (fun k6 => gate true (ible (Int.ofNat 65) (Int.ofNat m2))
 (k6 (ible (Int.ofNat m2) (Int.ofNat 90)) h)
 (k6 false h)) fun b8 h7 =>
 k3 b8 h7)
 (k3 true h)) fun b5 h4 =>
 fI (wrap .i64 (iadd n_5 (Int.ofNat 1))) fun n9 =>
 J.a1 l_0 c_0 b_3 b5 n9 h4))
 (J.a5 l_0 c_0 b_3 b_4 h)
noncomputable def s58_2 (c : Caller Prop FT) (k : KV) (J : J58) (l_0 : Nat) (c_0 : Nat) (v_7 : AV) (n_8 : Int) (n_9 : Int) (h : H) : Prop :=
 cnd (iblt n_9 (Int.ofNat l_0))
 (natI n_9 fun m10 =>
 idxS l_0 c_0 m10 fun m11 =>
 joinB (fun k12 => gate true (ible (Int.ofNat 65) (Int.ofNat m11))
 (k12 (ible (Int.ofNat m11) (Int.ofNat 90)) h)
 (k12 false h)) fun b14 h13 =>
 cnd b14
 (fI (wrap .u8 (iadd (Int.ofNat m11) (Int.ofNat 32))) fun n15 =>
 cnd (iblt n_8 n_9)
 (natI n_9 fun m16 =>
 natI n_8 fun m17 =>
 cutS l_0 c_0 m17 m16 fun l18 c19 =>
 c (.func 14) [v_7, (.str l18 c19)] h13 fun _ h21 =>
 J.a3 l_0 c_0 v_7 n_9 n15 h21)
 (J.a3 l_0 c_0 v_7 n_9 n15 h13))
 (J.a4 l_0 c_0 v_7 n_8 n_9 h13))
 (cnd (iblt n_8 (Int.ofNat l_0))
 (natI n_8 fun m22 =>
 cutS l_0 c_0 m22 l_0 fun l23 c24 =>
 c (.func 14) [v_7, (.str l23 c24)] h fun _ h26 =>
 c (.func 16) [v_7] h26 fun v27 h28 =>
 asS v27 fun l29 c30 =>
 k (.str l29 c30) h28)
 (c (.func 16) [v_7] h fun v31 h32 =>
 asS v31 fun l33 c34 =>
 k (.str l33 c34) h32))
noncomputable def s58_3 (c : Caller Prop FT) (_k : KV) (J : J58) (l_0 : Nat) (c_0 : Nat) (v_7 : AV) (n_9 : Int) (n_10 : Int) (h : H) : Prop :=
 c (.func 13) [v_7, (.int .u8 n_10)] h fun _ h36 =>
 fI (wrap .i64 (iadd n_9 (Int.ofNat 1))) fun n37 =>
 J.a4 l_0 c_0 v_7 n37 n_9 h36
noncomputable def s58_4 (_c : Caller Prop FT) (_k : KV) (J : J58) (l_0 : Nat) (c_0 : Nat) (v_7 : AV) (n_8 : Int) (n_9 : Int) (h : H) : Prop :=
 fI (wrap .i64 (iadd n_9 (Int.ofNat 1))) fun n38 =>
 J.a2 l_0 c_0 v_7 n_8 n38 h
noncomputable def s58_5 (c : Caller Prop FT) (k : KV) (J : J58) (l_0 : Nat) (c_0 : Nat) (b_3 : Bool) (b_4 : Bool) (h : H) : Prop :=
 cnd b_3
 (cnd (bnot b_4)
 (k (.str l_0 c_0) h)
 (Hp.newK h ob39 fun p39 h40 =>
 c (.func 74) [(.ptr p39 0), (.int .i64 (Int.ofNat l_0))] h40 fun _ h42 =>
 J.a2 l_0 c_0 (.ptr p39 0) (Int.ofNat 0) (Int.ofNat 0) h42))
 (c (.func 75) [(.func (.func 76) [] []), (.str l_0 c_0)] h fun v43 h44 =>
 asS v43 fun l45 c46 =>
 k (.str l45 c46) h44)
noncomputable def z58 : J58 := ⟨fun _ _ _ => False, fun _ _ _ _ _ _ => False, fun _ _ _ _ _ _ => False, fun _ _ _ _ _ _ => False, fun _ _ _ _ _ _ => False, fun _ _ _ _ _ => False⟩
noncomputable def r58 (c : Caller Prop FT) (k : KV) (m : Nat) : J58 := Nat.rec z58 (fun _ J => ⟨s58_0 c k J, s58_1 c k J, s58_2 c k J, s58_3 c k J, s58_4 c k J, s58_5 c k J⟩) m
noncomputable def f58 (J : J58) : Jump := fun L f h => match L with
  | 0 => asS (f 0) fun l_0 c_0 => J.a0 l_0 c_0 h
  | 1 => asS (f 0) fun l_0 c_0 => asB (f 3) fun b_3 => asB (f 4) fun b_4 => asI .i64 (f 5) fun n_5 => J.a1 l_0 c_0 b_3 b_4 n_5 h
  | 2 => asS (f 0) fun l_0 c_0 => asI .i64 (f 8) fun n_8 => asI .i64 (f 9) fun n_9 => J.a2 l_0 c_0 (f 7) n_8 n_9 h
  | 3 => asS (f 0) fun l_0 c_0 => asI .i64 (f 9) fun n_9 => asI .u8 (f 10) fun n_10 => J.a3 l_0 c_0 (f 7) n_9 n_10 h
  | 4 => asS (f 0) fun l_0 c_0 => asI .i64 (f 8) fun n_8 => asI .i64 (f 9) fun n_9 => J.a4 l_0 c_0 (f 7) n_8 n_9 h
  | 5 => asS (f 0) fun l_0 c_0 => asB (f 3) fun b_3 => asB (f 4) fun b_4 => J.a5 l_0 c_0 b_3 b_4 h
  | _ => False
noncomputable def d58 : Code := Option.rec .skip (fun c => c) Go.Proofs.Tryz.f58.body
noncomputable def q58 : Plans := []
noncomputable def u58 : Cuts := [(.root, 0), ((.l (.r (.l (.r (.r .root))))), 1), ((.l (.r (.l (.r (.r (.r (.r (.l (.r (.l (.r (.r (.r .root))))))))))))), 2), ((.r (.r (.l (.r (.r (.l (.l (.r (.l (.l (.r (.l (.r (.r (.r (.r (.l (.r (.l (.r (.r (.r .root)))))))))))))))))))))), 3), ((.r (.r (.l (.l (.r (.l (.r (.r (.r (.r (.l (.r (.l (.r (.r (.r .root)))))))))))))))), 4), ((.r (.r (.r .root))), 5)]
/- strings.IndexRune -/
structure J59 where
  a0 : Nat → Nat → Int → H → Prop
  a1 : AV → H → Prop
  a2 : Nat → Nat → Int → Nat → Nat → Int → Int → Int → H → Prop
  a3 : Nat → Nat → Int → Nat → Nat → Int → Int → Int → Int → H → Prop
  a4 : Nat → Nat → Int → Nat → Nat → Int → Int → Int → H → Prop
  a5 : Nat → Nat → Int → Nat → Nat → Int → Int → Int → H → Prop
  a6 : Nat → Nat → Nat → Nat → Int → Int → Int → Int → H → Prop
  a7 : Nat → Nat → Nat → Nat → Int → Int → Int → Int → Int → H → Prop
  a8 : Nat → Nat → Nat → Nat → Int → Int → Int → Int → H → Prop
  a9 : Nat → Nat → Nat → Nat → Int → Int → Int → Int → H → Prop
  a10 : Nat → Nat → Nat → Nat → Int → Int → Int → Int → H → Prop
  a11 : Nat → Nat → Nat → Nat → Int → Int → Int → Int → Int → H → Prop
  a12 : Nat → Nat → Nat → Nat → Int → Int → Int → Int → H → Prop
  a13 : Nat → Nat → Int → Nat → Nat → Int → Int → H → Prop
  a14 : Nat → Nat → Nat → Nat → Int → Int → Int → Int → H → Prop
  a15 : Nat → Nat → Nat → Nat → Int → Int → Int → Int → Int → H → Prop
  a16 : Nat → Nat → Nat → Nat → Int → Int → Int → Int → H → Prop
  a17 : Nat → Nat → Nat → Nat → Int → Int → Int → Int → H → Prop
  a18 : Nat → Nat → Nat → Nat → Int → Int → Int → Int → H → Prop
  a19 : Nat → Nat → Nat → Nat → Int → Int → Int → Int → Int → H → Prop
  a20 : Nat → Nat → Nat → Nat → Int → Int → Int → Int → H → Prop
  a21 : Int → Int → Int → H → Prop
  a22 : Nat → Nat → Nat → Nat → Int → Int → Int → Int → H → Prop
noncomputable def s59_0 (c : Caller Prop FT) (k : KV) (J : J59) (l_0 : Nat) (c_0 : Nat) (n_1 : Int) (h : H) : Prop :=
 joinB (fun k1 => gate true (ible (Int.ofNat 0) n_1)
 (k1 (iblt n_1 (Int.ofNat 128)) h)
 (k1 false h)) fun b3 h2 =>
 cnd b3
 (fI (wrap .u8 n_1) fun n4 =>
 c (.func 56) [(.str l_0 c_0), (.int .u8 n4)] h2 fun v5 h6 =>
 asI .i64 v5 fun n7 =>
 k (.int .i64 n7) h6)
 (cnd (ibeq n_1 (Int.ofNat 65533))
 (oK (exRange env 9 (.str l_0 c_0) h2) fun v8 h9 =>
 J.a1 v8 h9)
 (c (.func 77) [(.int .i32 n_1)] h2 fun v10 h11 =>
 asB v10 fun b12 =>
 cnd (bnot b12)
 (k (.int .i64 (Int.negSucc 0)) h11)
 (oK (convA env h11 21 9 (.int .i32 n_1)) fun v13 h14 =>
 asS v13 fun l15 c16 =>
 fI (wrap .i64 (isub (Int.ofNat l15) (Int.ofNat 1))) fun n17 =>
 J.a2 l_0 c_0 n_1 l15 c16 n17 n17 (Int.ofNat 0) h14)))
noncomputable def s59_1 (_c : Caller Prop FT) (k : KV) (J : J59) (v_175 : AV) (h : H) : Prop :=
 oK (exNext v_175 true h) fun v18 h19 =>
 ext 0 v18 fun v20 =>
 asB v20 fun b21 =>
 cnd b21
 (ext 1 v18 fun v22 =>
 asI .i64 v22 fun n23 =>
 ext 2 v18 fun v24 =>
 asI .i32 v24 fun n25 =>
 cnd (ibeq n25 (Int.ofNat 65533))
 (k (.int .i64 n23) h19)
 (J.a1 v_175 h19))
 (k (.int .i64 (Int.negSucc 0)) h19)
noncomputable def s59_2 (c : Caller Prop FT) (k : KV) (J : J59) (l_0 : Nat) (c_0 : Nat) (n_1 : Int) (l_7 : Nat) (c_7 : Nat) (n_8 : Int) (n_9 : Int) (n_10 : Int) (h : H) : Prop :=
 cnd (iblt n_9 (Int.ofNat l_0))
 (natI n_9 fun m26 =>
 idxS l_0 c_0 m26 fun m27 =>
 natI n_8 fun m28 =>
 idxS l_7 c_7 m28 fun m29 =>
 cnd (bnot (ibeq (Int.ofNat m27) (Int.ofNat m29)))
 (fI (wrap .i64 (iadd n_9 (Int.ofNat 1))) fun n30 =>
 natI n30 fun m31 =>
 cutS l_0 c_0 m31 l_0 fun l32 c33 =>
 natI n_8 fun m34 =>
 idxS l_7 c_7 m34 fun m35 =>
 c (.func 56) [(.str l32 c33), (.int .u8 (Int.ofNat m35))] h fun v36 h37 =>
 asI .i64 v36 fun n38 =>
 cnd (iblt n38 (Int.ofNat 0))
 (k (.int .i64 (Int.negSucc 0)) h37)
 (fI (wrap .i64 (iadd n38 (Int.ofNat 1))) fun n39 =>
 fI (wrap .i64 (iadd n_9 n39)) fun n40 =>
 J.a4 l_0 c_0 n_1 l_7 c_7 n_8 n40 n_10 h37))
 (J.a4 l_0 c_0 n_1 l_7 c_7 n_8 n_9 n_10 h))
 (k (.int .i64 (Int.negSucc 0)) h)
noncomputable def s59_3 (_c : Caller Prop FT) (k : KV) (J : J59) (l_0 : Nat) (c_0 : Nat) (n_1 : Int) (l_7 : Nat) (c_7 : Nat) (n_8 : Int) (n_9 : Int) (n_10 : Int) (n_12 : Int) (h : H) : Prop :=
 cnd (iblt n_12 (Int.ofNat l_7))
 (fI (wrap .i64 (isub n_9 n_12)) fun n41 =>
 natI n41 fun m42 =>
 idxS l_0 c_0 m42 fun m43 =>
 fI (wrap .i64 (isub n_8 n_12)) fun n44 =>
 natI n44 fun m45 =>
 idxS l_7 c_7 m45 fun m46 =>
 cnd (bnot (ibeq (Int.ofNat m43) (Int.ofNat m46)))
 (J.a5 l_0 c_0 n_1 l_7 c_7 n_8 n_9 n_10 h)
 (fI (wrap .i64 (iadd n_12 (Int.ofNat 1))) fun n47 =>
 J.a3 l_0 c_0 n_1 l_7 c_7 n_8 n_9 n_10 n47 h))
 (fI (wrap .i64 (isub n_9 n_8)) fun n48 =>
 k (.int .i64 n48) h)
noncomputable def s59_4 (_c : Caller Prop FT) (_k : KV) (J : J59) (l_0 : Nat) (c_0 : Nat) (n_1 : Int) (l_7 : Nat) (c_7 : Nat) (n_8 : Int) (n_9 : Int) (n_10 : Int) (h : H) : Prop :=
 J.a3 l_0 c_0 n_1 l_7 c_7 n_8 n_9 n_10 (Int.ofNat 1) h
noncomputable def s59_5 (c : Caller Prop FT) (_k : KV) (J : J59) (l_0 : Nat) (c_0 : Nat) (n_1 : Int) (l_7 : Nat) (c_7 : Nat) (n_8 : Int) (n_9 : Int) (n_10 : Int) (h : H) : Prop :=
 fI (wrap .i64 (iadd n_10 (Int.ofNat 1))) fun n49 =>
 fI (wrap .i64 (iadd n_9 (Int.ofNat 1))) fun n50 =>
 joinB (fun k51 => gate true true
 (c (.func 78) [(.int .i64 n50)] h fun v54 h55 =>
 asI .i64 v54 fun n56 =>
 k51 (iblt n56 n49) h55)
 (k51 false h)) fun b53 h52 =>
 joinB (fun k57 => gate true b53
 (k57 (iblt n50 (Int.ofNat l_0)) h52)
 (k57 false h52)) fun b59 h58 =>
 joinB (fun k60 => gate false b59
 (joinB (fun k63 => gate true false
 (shrI .i64 n50 (Int.ofNat 4) fun n66 =>
 fI (wrap .i64 (iadd (Int.ofNat 4) n66)) fun n67 =>
 k63 (ible n67 n49) h58)
 (k63 false h58)) fun b65 h64 =>
 joinB (fun k68 => gate true b65
 (k68 (iblt n50 (Int.ofNat l_0)) h64)
 (k68 false h64)) fun b70 h69 =>
 k60 b70 h69)
 (k60 true h58)) fun b62 h61 =>
 cnd b62
 (J.a13 l_0 c_0 n_1 l_7 c_7 n_8 n50 h61)
 (J.a2 l_0 c_0 n_1 l_7 c_7 n_8 n50 n49 h61)
noncomputable def s59_6 (_c : Caller Prop FT) (k : KV) (J : J59) (l_0 : Nat) (c_0 : Nat) (l_7 : Nat) (c_7 : Nat) (n_8 : Int) (n_9 : Int) (n_14 : Int) (n_15 : Int) (h : H) : Prop :=
 cnd (iblt n_9 (Int.ofNat l_0))
 (natI n_9 fun m71 =>
 idxS l_0 c_0 m71 fun m72 =>
 joinB (fun k73 => gate true (ibeq (Int.ofNat m72) n_14)
 (fI (wrap .i64 (isub n_9 (Int.ofNat 1))) fun n76 =>
 natI n76 fun m77 =>
 idxS l_0 c_0 m77 fun m78 =>
 k73 (ibeq (Int.ofNat m78) n_15) h)
 (k73 false h)) fun b75 h74 =>
 cnd b75
 (J.a7 l_0 c_0 l_7 c_7 n_8 n_9 n_14 n_15 (Int.ofNat 2) h74)
 (J.a8 l_0 c_0 l_7 c_7 n_8 n_9 n_14 n_15 h74))
 (k (.int .i64 (Int.negSucc 0)) h)
noncomputable def s59_7 (_c : Caller Prop FT) (k : KV) (J : J59) (l_0 : Nat) (c_0 : Nat) (l_7 : Nat) (c_7 : Nat) (n_8 : Int) (n_9 : Int) (n_14 : Int) (n_15 : Int) (n_16 : Int) (h : H) : Prop :=
 cnd (iblt n_16 (Int.ofNat l_7))
 (fI (wrap .i64 (isub n_9 n_16)) fun n79 =>
 natI n79 fun m80 =>
 idxS l_0 c_0 m80 fun m81 =>
 fI (wrap .i64 (isub n_8 n_16)) fun n82 =>
 natI n82 fun m83 =>
 idxS l_7 c_7 m83 fun m84 =>
 cnd (bnot (ibeq (Int.ofNat m81) (Int.ofNat m84)))
 (J.a8 l_0 c_0 l_7 c_7 n_8 n_9 n_14 n_15 h)
 (fI (wrap .i64 (iadd n_16 (Int.ofNat 1))) fun n85 =>
 J.a7 l_0 c_0 l_7 c_7 n_8 n_9 n_14 n_15 n85 h))
 (fI (wrap .i64 (isub n_9 n_8)) fun n86 =>
 k (.int .i64 n86) h)
noncomputable def s59_8 (_c : Caller Prop FT) (_k : KV) (J : J59) (l_0 : Nat) (c_0 : Nat) (l_7 : Nat) (c_7 : Nat) (n_8 : Int) (n_9 : Int) (n_14 : Int) (n_15 : Int) (h : H) : Prop :=
 fI (wrap .i64 (iadd n_9 (Int.ofNat 1))) fun n87 =>
 J.a6 l_0 c_0 l_7 c_7 n_8 n87 n_14 n_15 h
noncomputable def s59_9 (_c : Caller Prop FT) (_k : KV) (J : J59) (l_0 : Nat) (c_0 : Nat) (l_7 : Nat) (c_7 : Nat) (n_8 : Int) (n_9 : Int) (n_14 : Int) (n_15 : Int) (h : H) : Prop :=
 J.a10 l_0 c_0 l_7 c_7 n_8 n_9 n_14 n_15 h
noncomputable def s59_10 (_c : Caller Prop FT) (k : KV) (J : J59) (l_0 : Nat) (c_0 : Nat) (l_7 : Nat) (c_7 : Nat) (n_8 : Int) (n_9 : Int) (n_14 : Int) (n_15 : Int) (h : H) : Prop :=
 cnd (iblt n_9 (Int.ofNat l_0))
 (natI n_9 fun m88 =>
 idxS l_0 c_0 m88 fun m89 =>
 joinB (fun k90 => gate true (ibeq (Int.ofNat m89) n_14)
 (fI (wrap .i64 (isub n_9 (Int.ofNat 1))) fun n93 =>
 natI n93 fun m94 =>
 idxS l_0 c_0 m94 fun m95 =>
 k90 (ibeq (Int.ofNat m95) n_15) h)
 (k90 false h)) fun b92 h91 =>
 cnd b92
 (J.a11 l_0 c_0 l_7 c_7 n_8 n_9 n_14 n_15 (Int.ofNat 2) h91)
 (J.a12 l_0 c_0 l_7 c_7 n_8 n_9 n_14 n_15 h91))
 (k (.int .i64 (Int.negSucc 0)) h)
noncomputable def s59_11 (_c : Caller Prop FT) (k : KV) (J : J59) (l_0 : Nat) (c_0 : Nat) (l_7 : Nat) (c_7 : Nat) (n_8 : Int) (n_9 : Int) (n_14 : Int) (n_15 : Int) (n_16 : Int) (h : H) : Prop :=
 cnd (iblt n_16 (Int.ofNat l_7))
 (fI (wrap .i64 (isub n_9 n_16)) fun n96 =>
 natI n96 fun m97 =>
 idxS l_0 c_0 m97 fun m98 =>
 fI (wrap .i64 (isub n_8 n_16)) fun n99 =>
 natI n99 fun m100 =>
 idxS l_7 c_7 m100 fun m101 =>
 cnd (bnot (ibeq (Int.ofNat m98) (Int.ofNat m101)))
 (J.a12 l_0 c_0 l_7 c_7 n_8 n_9 n_14 n_15 h)
 (fI (wrap .i64 (iadd n_16 (Int.ofNat 1))) fun n102 =>
 J.a11 l_0 c_0 l_7 c_7 n_8 n_9 n_14 n_15 n102 h))
 (fI (wrap .i64 (isub n_9 n_8)) fun n103 =>
 k (.int .i64 n103) h)
noncomputable def s59_12 (_c : Caller Prop FT) (_k : KV) (J : J59) (l_0 : Nat) (c_0 : Nat) (l_7 : Nat) (c_7 : Nat) (n_8 : Int) (n_9 : Int) (n_14 : Int) (n_15 : Int) (h : H) : Prop :=
 fI (wrap .i64 (iadd n_9 (Int.ofNat 1))) fun n104 =>
 J.a10 l_0 c_0 l_7 c_7 n_8 n104 n_14 n_15 h
noncomputable def s59_13 (c : Caller Prop FT) (k : KV) (J : J59) (l_0 : Nat) (c_0 : Nat) (n_1 : Int) (l_7 : Nat) (c_7 : Nat) (n_8 : Int) (n_9 : Int) (h : H) : Prop :=
 cnd true
 (fI (wrap .i64 (isub n_9 n_8)) fun n105 =>
 natI n105 fun m106 =>
 cutS l_0 c_0 m106 l_0 fun l107 c108 =>
 oK (convA env h 21 9 (.int .i32 n_1)) fun v109 h110 =>
 asS v109 fun l111 c112 =>
 c (.func 79) [(.str l107 c108), (.str l111 c112)] h110 fun v113 h114 =>
 asI .i64 v113 fun n115 =>
 cnd (ible (Int.ofNat 0) n115)
 (fI (wrap .i64 (iadd n_9 n115)) fun n116 =>
 fI (wrap .i64 (isub n116 n_8)) fun n117 =>
 k (.int .i64 n117) h114)
 (k (.int .i64 (Int.negSucc 0)) h114))
 (natI n_8 fun m118 =>
 idxS l_7 c_7 m118 fun m119 =>
 fI (wrap .i64 (isub n_8 (Int.ofNat 1))) fun n120 =>
 natI n120 fun m121 =>
 idxS l_7 c_7 m121 fun m122 =>
 J.a14 l_0 c_0 l_7 c_7 n_8 n_9 (Int.ofNat m119) (Int.ofNat m122) h)
noncomputable def s59_14 (_c : Caller Prop FT) (k : KV) (J : J59) (l_0 : Nat) (c_0 : Nat) (l_7 : Nat) (c_7 : Nat) (n_8 : Int) (n_9 : Int) (n_14 : Int) (n_15 : Int) (h : H) : Prop :=
 cnd (iblt n_9 (Int.ofNat l_0))
 (natI n_9 fun m123 =>
 idxS l_0 c_0 m123 fun m124 =>
 joinB (fun k125 => gate true (ibeq (Int.ofNat m124) n_14)
 (fI (wrap .i64 (isub n_9 (Int.ofNat 1))) fun n128 =>
 natI n128 fun m129 =>
 idxS l_0 c_0 m129 fun m130 =>
 k125 (ibeq (Int.ofNat m130) n_15) h)
 (k125 false h)) fun b127 h126 =>
 cnd b127
 (J.a15 l_0 c_0 l_7 c_7 n_8 n_9 n_14 n_15 (Int.ofNat 2) h126)
 (J.a16 l_0 c_0 l_7 c_7 n_8 n_9 n_14 n_15 h126))
 (k (.int .i64 (Int.negSucc 0)) h)
noncomputable def s59_15 (_c : Caller Prop FT) (k : KV) (J : J59) (l_0 : Nat) (c_0 : Nat) (l_7 : Nat) (c_7 : Nat) (n_8 : Int) (n_9 : Int) (n_14 : Int) (n_15 : Int) (n_16 : Int) (h : H) : Prop :=
 cnd (iblt n_16 (Int.ofNat l_7))
 (fI (wrap .i64 (isub n_9 n_16)) fun n131 =>
 natI n131 fun m132 =>
 idxS l_0 c_0 m132 fun m133 =>
 fI (wrap .i64 (isub n_8 n_16)) fun n134 =>
 natI n134 fun m135 =>
 idxS l_7 c_7 m135 fun m136 =>
 cnd (bnot (ibeq (Int.ofNat m133) (Int.ofNat m136)))
 (J.a16 l_0 c_0 l_7 c_7 n_8 n_9 n_14 n_15 h)
 (fI (wrap .i64 (iadd n_16 (Int.ofNat 1))) fun n137 =>
 J.a15 l_0 c_0 l_7 c_7 n_8 n_9 n_14 n_15 n137 h))
 (fI (wrap .i64 (isub n_9 n_8)) fun n138 =>
 k (.int .i64 n138) h)
noncomputable def s59_16 (_c : Caller Prop FT) (_k : KV) (J : J59) (l_0 : Nat) (c_0 : Nat) (l_7 : Nat) (c_7 : Nat) (n_8 : Int) (n_9 : Int) (n_14 : Int) (n_15 : Int) (h : H) : Prop :=
 fI (wrap .i64 (iadd n_9 (Int.ofNat 1))) fun n139 =>
 J.a14 l_0 c_0 l_7 c_7 n_8 n139 n_14 n_15 h
noncomputable def s59_17 (_c : Caller Prop FT) (_k : KV) (J : J59) (l_0 : Nat) (c_0 : Nat) (l_7 : Nat) (c_7 : Nat) (n_8 : Int) (n_9 : Int) (n_14 : Int) (n_15 : Int) (h : H) : Prop :=
 J.a18 l_0 c_0 l_7 c_7 n_8 n_9 n_14 n_15 h
noncomputable def s59_18 (_c : Caller Prop FT) (k : KV) (J : J59) (l_0 : Nat) (c_0 : Nat) (l_7 : Nat) (c_7 : Nat) (n_8 : Int) (n_9 : Int) (n_14 : Int) (n_15 : Int) (h : H) : Prop :=
 cnd (iblt n_9 (Int.ofNat l_0))
 (natI n_9 fun m140 =>
 idxS l_0 c_0 m140 fun m141 =>
 joinB (fun k142 => gate true (ibeq (Int.ofNat m141) n_14)
 (fI (wrap .i64 (isub n_9 (Int.ofNat 1))) fun n145 =>
 natI n145 fun m146 =>
 idxS l_0 c_0 m146 fun m147 =>
 k142 (ibeq (Int.ofNat m147) n_15) h)
 (k142 false h)) fun b144 h143 =>
 cnd b144
 (J.a19 l_0 c_0 l_7 c_7 n_8 n_9 n_14 n_15 (Int.ofNat 2) h143)
 (J.a20 l_0 c_0 l_7 c_7 n_8 n_9 n_14 n_15 h143))
 (k (.int .i64 (Int.negSucc 0)) h)
noncomputable def s59_19 (_c : Caller Prop FT) (k : KV) (J : J59) (l_0 : Nat) (c_0 : Nat) (l_7 : Nat) (c_7 : Nat) (n_8 : Int) (n_9 : Int) (n_14 : Int) (n_15 : Int) (n_16 : Int) (h : H) : Prop :=
 cnd (iblt n_16 (Int.ofNat l_7))
 (fI (wrap .i64 (isub n_9 n_16)) fun n148 =>
 natI n148 fun m149 =>
 idxS l_0 c_0 m149 fun m150 =>
 fI (wrap .i64 (isub n_8 n_16)) fun n151 =>
 natI n151 fun m152 =>
 idxS l_7 c_7 m152 fun m153 =>
 cnd (bnot (ibeq (Int.ofNat m150) (Int.ofNat m153)))
 (J.a20 l_0 c_0 l_7 c_7 n_8 n_9 n_14 n_15 h)
 (fI (wrap .i64 (iadd n_16 (Int.ofNat 1))) fun n154 =>
 J.a19 l_0 c_0 l_7 c_7 n_8 n_9 n_14 n_15 n154 h))
 (fI (wrap .i64 (isub n_9 n_8)) fun n155 =>
 k (.int .i64 n155) h)
noncomputable def s59_20 (_c : Caller Prop FT) (_k : KV) (J : J59) (l_0 : Nat) (c_0 : Nat) (l_7 : Nat) (c_7 : Nat) (n_8 : Int) (n_9 : Int) (n_14 : Int) (n_15 : Int) (h : H) : Prop :=
 fI (wrap .i64 (iadd n_9 (Int.ofNat 1))) fun n156 =>
 J.a18 l_0 c_0 l_7 c_7 n_8 n156 n_14 n_15 h
noncomputable def s59_21 (_c : Caller Prop FT) (k : KV) (_J : J59) (n_8 : Int) (n_9 : Int) (n_13 : Int) (h : H) : Prop :=
 cnd (ible (Int.ofNat 0) n_13)
 (fI (wrap .i64 (iadd n_9 n_13)) fun n157 =>
 fI (wrap .i64 (isub n157 n_8)) fun n158 =>
 k (.int .i64 n158) h)
 (k (.int .i64 (Int.negSucc 0)) h)
noncomputable def s59_22 (_c : Caller Prop FT) (_k : KV) (J : J59) (l_0 : Nat) (c_0 : Nat) (l_7 : Nat) (c_7 : Nat) (n_8 : Int) (n_9 : Int) (n_14 : Int) (n_15 : Int) (h : H) : Prop :=
 J.a6 l_0 c_0 l_7 c_7 n_8 n_9 n_14 n_15 h
noncomputable def z59 : J59 := ⟨fun _ _ _ _ => False, fun _ _ => False, fun _ _ _ _ _ _ _ _ _ => False, fun _ _ _ _ _ _ _ _ _ _ => False, fun _ _ _ _ _ _ _ _ _ => False, fun _ _ _ _ _ _ _ _ _ => False, fun _ _ _ _ _ _ _ _ _ => False, fun _ _ _ _ _ _ _ _ _ _ => False, fun _ _ _ _ _ _ _ _ _ => False, fun _ _ _ _ _ _ _ _ _ => False, fun _ _ _ _ _ _ _ _ _ => False, fun _ _ _ _ _ _ _ _ _ _ => False, fun _ _ _ _ _ _ _ _ _ => False, fun _ _ _ _ _ _ _ _ => False, fun _ _ _ _ _ _ _ _ _ => False, fun _ _ _ _ _ _ _ _ _ _ => False, fun _ _ _ _ _ _ _ _ _ => False, fun _ _ _ _ _ _ _ _ _ => False, fun _ _ _ _ _ _ _ _ _ => False, fun _ _ _ _ _ _ _ _ _ _ => False, fun _ _ _ _ _ _ _ _ _ => False, fun _ _ _ _ => False, fun _ _ _ _ _ _ _ _ _ => False⟩
noncomputable def r59 (c : Caller Prop FT) (k : KV) (m : Nat) : J59 := Nat.rec z59 (fun _ J => ⟨s59_0 c k J, s59_1 c k J, s59_2 c k J, s59_3 c k J, s59_4 c k J, s59_5 c k J, s59_6 c k J, s59_7 c k J, s59_8 c k J, s59_9 c k J, s59_10 c k J, s59_11 c k J, s59_12 c k J, s59_13 c k J, s59_14 c k J, s59_15 c k J, s59_16 c k J, s59_17 c k J, s59_18 c k J, s59_19 c k J, s59_20 c k J, s59_21 c k J, s59_22 c k J⟩) m
noncomputable def f59 (J : J59) : Jump := fun L f h => match L with
  | 0 => asS (f 0) fun l_0 c_0 => asI .i32 (f 1) fun n_1 => J.a0 l_0 c_0 n_1 h
  | 1 => J.a1 (f 175) h
  | 2 => asS (f 0) fun l_0 c_0 => asI .i32 (f 1) fun n_1 => asS (f 7) fun l_7 c_7 => asI .i64 (f 8) fun n_8 => asI .i64 (f 9) fun n_9 => asI .i64 (f 10) fun n_10 => J.a2 l_0 c_0 n_1 l_7 c_7 n_8 n_9 n_10 h
  | 3 => asS (f 0) fun l_0 c_0 => asI .i32 (f 1) fun n_1 => asS (f 7) fun l_7 c_7 => asI .i64 (f 8) fun n_8 => asI .i64 (f 9) fun n_9 => asI .i64 (f 10) fun n_10 => asI .i64 (f 12) fun n_12 => J.a3 l_0 c_0 n_1 l_7 c_7 n_8 n_9 n_10 n_12 h
  | 4 => asS (f 0) fun l_0 c_0 => asI .i32 (f 1) fun n_1 => asS (f 7) fun l_7 c_7 => asI .i64 (f 8) fun n_8 => asI .i64 (f 9) fun n_9 => asI .i64 (f 10) fun n_10 => J.a4 l_0 c_0 n_1 l_7 c_7 n_8 n_9 n_10 h
  | 5 => asS (f 0) fun l_0 c_0 => asI .i32 (f 1) fun n_1 => asS (f 7) fun l_7 c_7 => asI .i64 (f 8) fun n_8 => asI .i64 (f 9) fun n_9 => asI .i64 (f 10) fun n_10 => J.a5 l_0 c_0 n_1 l_7 c_7 n_8 n_9 n_10 h
  | 6 => asS (f 0) fun l_0 c_0 => asS (f 7) fun l_7 c_7 => asI .i64 (f 8) fun n_8 => asI .i64 (f 9) fun n_9 => asI .u8 (f 14) fun n_14 => asI .u8 (f 15) fun n_15 => J.a6 l_0 c_0 l_7 c_7 n_8 n_9 n_14 n_15 h
  | 7 => asS (f 0) fun l_0 c_0 => asS (f 7) fun l_7 c_7 => asI .i64 (f 8) fun n_8 => asI .i64 (f 9) fun n_9 => asI .u8 (f 14) fun n_14 => asI .u8 (f 15) fun n_15 => asI .i64 (f 16) fun n_16 => J.a7 l_0 c_0 l_7 c_7 n_8 n_9 n_14 n_15 n_16 h
  | 8 => asS (f 0) fun l_0 c_0 => asS (f 7) fun l_7 c_7 => asI .i64 (f 8) fun n_8 => asI .i64 (f 9) fun n_9 => asI .u8 (f 14) fun n_14 => asI .u8 (f 15) fun n_15 => J.a8 l_0 c_0 l_7 c_7 n_8 n_9 n_14 n_15 h
  | 9 => asS (f 0) fun l_0 c_0 => asS (f 7) fun l_7 c_7 => asI .i64 (f 8) fun n_8 => asI .i64 (f 9) fun n_9 => asI .u8 (f 14) fun n_14 => asI .u8 (f 15) fun n_15 => J.a9 l_0 c_0 l_7 c_7 n_8 n_9 n_14 n_15 h
  | 10 => asS (f 0) fun l_0 c_0 => asS (f 7) fun l_7 c_7 => asI .i64 (f 8) fun n_8 => asI .i64 (f 9) fun n_9 => asI .u8 (f 14) fun n_14 => asI .u8 (f 15) fun n_15 => J.a10 l_0 c_0 l_7 c_7 n_8 n_9 n_14 n_15 h
  | 11 => asS (f 0) fun l_0 c_0 => asS (f 7) fun l_7 c_7 => asI .i64 (f 8) fun n_8 => asI .i64 (f 9) fun n_9 => asI .u8 (f 14) fun n_14 => asI .u8 (f 15) fun n_15 => asI .i64 (f 16) fun n_16 => J.a11 l_0 c_0 l_7 c_7 n_8 n_9 n_14 n_15 n_16 h
  | 12 => asS (f 0) fun l_0 c_0 => asS (f 7) fun l_7 c_7 => asI .i64 (f 8) fun n_8 => asI .i64 (f 9) fun n_9 => asI .u8 (f 14) fun n_14 => asI .u8 (f 15) fun n_15 => J.a12 l_0 c_0 l_7 c_7 n_8 n_9 n_14 n_15 h
  | 13 => asS (f 0) fun l_0 c_0 => asI .i32 (f 1) fun n_1 => asS (f 7) fun l_7 c_7 => asI .i64 (f 8) fun n_8 => asI .i64 (f 9) fun n_9 => J.a13 l_0 c_0 n_1 l_7 c_7 n_8 n_9 h
  | 14 => asS (f 0) fun l_0 c_0 => asS (f 7) fun l_7 c_7 => asI .i64 (f 8) fun n_8 => asI .i64 (f 9) fun n_9 => asI .u8 (f 14) fun n_14 => asI .u8 (f 15) fun n_15 => J.a14 l_0 c_0 l_7 c_7 n_8 n_9 n_14 n_15 h
  | 15 => asS (f 0) fun l_0 c_0 => asS (f 7) fun l_7 c_7 => asI .i64 (f 8) fun n_8 => asI .i64 (f 9) fun n_9 => asI .u8 (f 14) fun n_14 => asI .u8 (f 15) fun n_15 => asI .i64 (f 16) fun n_16 => J.a15 l_0 c_0 l_7 c_7 n_8 n_9 n_14 n_15 n_16 h
  | 16 => asS (f 0) fun l_0 c_0 => asS (f 7) fun l_7 c_7 => asI .i64 (f 8) fun n_8 => asI .i64 (f 9) fun n_9 => asI .u8 (f 14) fun n_14 => asI .u8 (f 15) fun n_15 => J.a16 l_0 c_0 l_7 c_7 n_8 n_9 n_14 n_15 h
  | 17 => asS (f 0) fun l_0 c_0 => asS (f 7) fun l_7 c_7 => asI .i64 (f 8) fun n_8 => asI .i64 (f 9) fun n_9 => asI .u8 (f 14) fun n_14 => asI .u8 (f 15) fun n_15 => J.a17 l_0 c_0 l_7 c_7 n_8 n_9 n_14 n_15 h
  | 18 => asS (f 0) fun l_0 c_0 => asS (f 7) fun l_7 c_7 => asI .i64 (f 8) fun n_8 => asI .i64 (f 9) fun n_9 => asI .u8 (f 14) fun n_14 => asI .u8 (f 15) fun n_15 => J.a18 l_0 c_0 l_7 c_7 n_8 n_9 n_14 n_15 h
  | 19 => asS (f 0) fun l_0 c_0 => asS (f 7) fun l_7 c_7 => asI .i64 (f 8) fun n_8 => asI .i64 (f 9) fun n_9 => asI .u8 (f 14) fun n_14 => asI .u8 (f 15) fun n_15 => asI .i64 (f 16) fun n_16 => J.a19 l_0 c_0 l_7 c_7 n_8 n_9 n_14 n_15 n_16 h
  | 20 => asS (f 0) fun l_0 c_0 => asS (f 7) fun l_7 c_7 => asI .i64 (f 8) fun n_8 => asI .i64 (f 9) fun n_9 => asI .u8 (f 14) fun n_14 => asI .u8 (f 15) fun n_15 => J.a20 l_0 c_0 l_7 c_7 n_8 n_9 n_14 n_15 h
  | 21 => asI .i64 (f 8) fun n_8 => asI .i64 (f 9) fun n_9 => asI .i64 (f 13) fun n_13 => J.a21 n_8 n_9 n_13 h
  | 22 => asS (f 0) fun l_0 c_0 => asS (f 7) fun l_7 c_7 => asI .i64 (f 8) fun n_8 => asI .i64 (f 9) fun n_9 => asI .u8 (f 14) fun n_14 => asI .u8 (f 15) fun n_15 => J.a22 l_0 c_0 l_7 c_7 n_8 n_9 n_14 n_15 h
  | _ => False
noncomputable def d59 : Code := Option.rec .skip (fun c => c) Go.Proofs.Tryz.f59.body
noncomputable def q59 : Plans := [(6, [0, 1, 2, 3, 4, 5, 6]), (7, [0, 1, 2, 3, 4, 5, 6, 7, 8]), (14, [0, 1, 2, 3, 4, 5, 6, 7, 8, 9, 10]), (31, [0, 1, 2, 3, 4, 5, 6, 7, 8, 9, 10])]
noncomputable def u59 : Cuts := [(.root, 0), ((.l (.r (.l (.l (.r (.r (.r (.l (.r .root))))))))), 1), ((.l (.l (.r (.r (.r (.r (.l (.r (.r (.r (.r (.r (.r (.l (.r .root))))))))))))))), 2), ((.l (.r (.l (.r (.l (.l (.r (.l (.l (.l (.r (.r (.r (.r (.l (.r (.r (.r (.r (.r (.r (.l (.r .root))))))))))))))))))))))), 3), ((.r (.l (.l (.r (.l (.l (.l (.r (.r (.r (.r (.l (.r (.r (.r (.r (.r (.r (.l (.r .root)))))))))))))))))))), 4), ((.lab (.l (.r (.l (.l (.l (.r (.r (.r (.r (.l (.r (.r (.r (.r (.r (.r (.l (.r .root)))))))))))))))))) 0), 5), ((.l (.r (.r (.r (.l (.r (.l (.r (.r (.r (.r (.r (.r (.r (.l (.r (.r (.r (.r (.r (.r (.l (.r .root))))))))))))))))))))))), 6), ((.l (.r (.l (.l (.r (.l (.l (.r (.l (.l (.r (.r (.r (.l (.r (.l (.r (.r (.r (.r (.r (.r (.r (.l (.r (.r (.r (.r (.r (.r (.l (.r .root)))))))))))))))))))))))))))))))), 7), ((.r (.r (.l (.l (.r (.r (.r (.l (.r (.l (.r (.r (.r (.r (.r (.r (.r (.l (.r (.r (.r (.r (.r (.r (.l (.r .root)))))))))))))))))))))))))), 8), ((.lab (.r (.l (.r (.r (.r (.r (.r (.r (.r (.l (.r (.r (.r (.r (.r (.r (.l (.r .root)))))))))))))))))) 2), 9), ((.l (.r (.lab (.r (.l (.r (.r (.r (.r (.r (.r (.r (.l (.r (.r (.r (.r (.r (.r (.l (.r .root)))))))))))))))))) 2))), 10), ((.l (.r (.l (.l (.r (.l (.l (.r (.l (.l (.r (.lab (.r (.l (.r (.r (.r (.r (.r (.r (.r (.l (.r (.r (.r (.r (.r (.r (.l (.r .root)))))))))))))))))) 2)))))))))))), 11), ((.r (.r (.l (.l (.r (.lab (.r (.l (.r (.r (.r (.r (.r (.r (.r (.l (.r (.r (.r (.r (.r (.r (.l (.r .root)))))))))))))))))) 2)))))), 12), ((.lab (.r (.r (.r (.r (.r (.r (.l (.r .root)))))))) 1), 13), ((.l (.r (.r (.r (.l (.r (.l (.r (.lab (.r (.r (.r (.r (.r (.r (.l (.r .root)))))))) 1))))))))), 14), ((.l (.r (.l (.l (.r (.l (.l (.r (.l (.l (.r (.r (.r (.l (.r (.l (.r (.lab (.r (.r (.r (.r (.r (.r (.l (.r .root)))))))) 1)))))))))))))))))), 15), ((.r (.r (.l (.l (.r (.r (.r (.l (.r (.l (.r (.lab (.r (.r (.r (.r (.r (.r (.l (.r .root)))))))) 1)))))))))))), 16), ((.lab (.r (.l (.r (.lab (.r (.r (.r (.r (.r (.r (.l (.r .root)))))))) 1)))) 2), 17), ((.l (.r (.lab (.r (.l (.r (.lab (.r (.r (.r (.r (.r (.r (.l (.r .root)))))))) 1)))) 2))), 18), ((.l (.r (.l (.l (.r (.l (.l (.r (.l (.l (.r (.lab (.r (.l (.r (.lab (.r (.r (.r (.r (.r (.r (.l (.r .root)))))))) 1)))) 2)))))))))))), 19), ((.r (.r (.l (.l (.r (.lab (.r (.l (.r (.lab (.r (.r (.r (.r (.r (.r (.l (.r .root)))))))) 1)))) 2)))))), 20), ((.r (.l (.l (.r (.r (.r (.r (.r (.r (.r (.l (.r (.r (.r (.r (.r (.r (.l (.r .root))))))))))))))))))), 21), ((.r (.r (.l (.r (.l (.r (.r (.r (.r (.r (.r (.r (.l (.r (.r (.r (.r (.r (.r (.l (.r .root))))))))))))))))))))), 22)]
/- internal/stringslite.HasSuffix -/
structure J60 where
  a0 : Nat → Nat → Nat → Nat → H → Prop
noncomputable def s60_0 (_c : Caller Prop FT) (k : KV) (_J : J60) (l_0 : Nat) (c_0 : Nat) (l_1 : Nat) (c_1 : Nat) (h : H) : Prop :=
 joinB (fun k1 => gate true (ible (Int.ofNat l_1) (Int.ofNat l_0))
 (fI (wrap .i64 (isub (Int.ofNat l_0) (Int.ofNat l_1))) fun n4 =>
 natI n4 fun m5 =>
 cutS l_0 c_0 m5 l_0 fun l6 c7 =>
 k1 (strEq l6 c7 l_1 c_1) h)
 (k1 false h)) fun b3 h2 =>
 k (.bool b3) h2
noncomputable def z60 : J60 := ⟨fun _ _ _ _ _ => False⟩
noncomputable def r60 (c : Caller Prop FT) (k : KV) (m : Nat) : J60 := Nat.rec z60 (fun _ J => ⟨s60_0 c k J⟩) m
noncomputable def f60 (J : J60) : Jump := fun L f h => match L with
  | 0 => asS (f 0) fun l_0 c_0 => asS (f 1) fun l_1 c_1 => J.a0 l_0 c_0 l_1 c_1 h
  | _ => False
noncomputable def d60 : Code := Option.rec .skip (fun c => c) Go.Proofs.Tryz.f60.body
noncomputable def q60 : Plans := []
noncomputable def u60 : Cuts := [(.root, 0)]
/- oxbow/oxbowref4.Trigraph -/
structure J61 where
  a0 : Int → H → Prop
  a1 : Int → Int → H → Prop
noncomputable def s61_0 (_c : Caller Prop FT) (_k : KV) (J : J61) (n_0 : Int) (h : H) : Prop :=
 J.a1 n_0 (Int.ofNat 0) h
noncomputable def s61_1 (_c : Caller Prop FT) (k : KV) (J : J61) (n_0 : Int) (n_4 : Int) (h : H) : Prop :=
 cnd (iblt n_4 (Int.ofNat 9))
 (natI n_4 fun m1 =>
 idxS 9 834587979106535026493 m1 fun m2 =>
 cnd (ibeq (Int.ofNat m2) n_0)
 (natI n_4 fun m3 =>
 idxS 9 2333331710704686619683 m3 fun m4 =>
 k (.tuple [(.int .u8 (Int.ofNat m4)), (.bool true)]) h)
 (fI (wrap .i64 (iadd n_4 (Int.ofNat 1))) fun n5 =>
 J.a1 n_0 n5 h))
 (k (.tuple [(.int .u8 (Int.ofNat 0)), (.bool false)]) h)
noncomputable def z61 : J61 := ⟨fun _ _ => False, fun _ _ _ => False⟩
noncomputable def r61 (c : Caller Prop FT) (k : KV) (m : Nat) : J61 := Nat.rec z61 (fun _ J => ⟨s61_0 c k J, s61_1 c k J⟩) m
noncomputable def f61 (J : J61) : Jump := fun L f h => match L with
  | 0 => asI .u8 (f 0) fun n_0 => J.a0 n_0 h
  | 1 => asI .u8 (f 0) fun n_0 => asI .i64 (f 4) fun n_4 => J.a1 n_0 n_4 h
  | _ => False
noncomputable def d61 : Code := Option.rec .skip (fun c => c) Go.Proofs.Tryz.f61.body
noncomputable def q61 : Plans := []
noncomputable def u61 : Cuts := [(.root, 0), ((.l (.r (.l (.r .root)))), 1)]
/- oxbow/oxbowref4.puncts -/
structure J62 where
  a0 : H → Prop
noncomputable def s62_0 (_c : Caller Prop FT) (k : KV) (_J : J62) (h : H) : Prop :=
 oK (withElem env 33 (fun e ei => exBuildSlice 54 [(0, (.str 4 975518245)), (1, (.str 3 3026478)), (2, (.str 3 4013116)), (3, (.str 3 4013630)), (4, (.str 2 15917)), (5, (.str 2 11051)), (6, (.str 2 11565)), (7, (.str 2 15420)), (8, (.str 2 15934)), (9, (.str 2 15676)), (10, (.str 2 15678)), (11, (.str 2 15677)), (12, (.str 2 15649)), (13, (.str 2 9766)), (14, (.str 2 31868)), (15, (.str 2 15658)), (16, (.str 2 15663)), (17, (.str 2 15653)), (18, (.str 2 15659)), (19, (.str 2 15661)), (20, (.str 2 15654)), (21, (.str 2 15710)), (22, (.str 2 15740)), (23, (.str 2 8995)), (24, (.str 2 14908)), (25, (.str 2 15930)), (26, (.str 2 9532)), (27, (.str 2 15909)), (28, (.str 2 14885)), (29, (.str 1 91)), (30, (.str 1 93)), (31, (.str 1 40)), (32, (.str 1 41)), (33, (.str 1 123)), (34, (.str 1 125)), (35, (.str 1 46)), (36, (.str 1 38)), (37, (.str 1 42)), (38, (.str 1 43)), (39, (.str 1 45)), (40, (.str 1 126)), (41, (.str 1 33)), (42, (.str 1 47)), (43, (.str 1 37)), (44, (.str 1 60)), (45, (.str 1 62)), (46, (.str 1 94)), (47, (.str 1 124)), (48, (.str 1 63)), (49, (.str 1 58)), (50, (.str 1 59)), (51, (.str 1 61)), (52, (.str 1 44)), (53, (.str 1 35))] h e ei)) fun v1 h2 =>
 k v1 h2
noncomputable def z62 : J62 := ⟨fun _ => False⟩
noncomputable def r62 (c : Caller Prop FT) (k : KV) (m : Nat) : J62 := Nat.rec z62 (fun _ J => ⟨s62_0 c k J⟩) m
noncomputable def f62 (J : J62) : Jump := fun L f h => match L with
  | 0 => J.a0 h
  | _ => False
noncomputable def d62 : Code := Option.rec .skip (fun c => c) Go.Proofs.Tryz.f62.body
noncomputable def q62 : Plans := []
noncomputable def u62 : Cuts := [(.root, 0)]
/- (*strings.asciiSet).contains -/
structure J63 where
  a0 : AV → Int → H → Prop
noncomputable def s63_0 (_c : Caller Prop FT) (k : KV) (_J : J63) (v_0 : AV) (n_1 : Int) (h : H) : Prop :=
 oK (exNil v_0 h) fun v1 h2 =>
 oK (exIndexAddr env 89 v1 (natOf (.int .u8 n_1)) h2) fun v3 h4 =>
 ld1 v3 h4 fun v5 =>
 asB v5 fun b6 =>
 k (.bool b6) h4
noncomputable def z63 : J63 := ⟨fun _ _ _ => False⟩
noncomputable def r63 (c : Caller Prop FT) (k : KV) (m : Nat) : J63 := Nat.rec z63 (fun _ J => ⟨s63_0 c k J⟩) m
noncomputable def f63 (J : J63) : Jump := fun L f h => match L with
  | 0 => asI .u8 (f 1) fun n_1 => J.a0 (f 0) n_1 h
  | _ => False
noncomputable def d63 : Code := Option.rec .skip (fun c => c) Go.Proofs.Tryz.f63.body
noncomputable def q63 : Plans := []
noncomputable def u63 : Cuts := [(.root, 0)]
/- unicode/utf8.DecodeRuneInString -/
/- strings.ContainsRune -/
/- unicode/utf8.DecodeLastRuneInString -/
/- internal/strconv.ParseInt -/
structure J67 where
  a0 : Nat → Nat → Int → Int → H → Prop
  a1 : Int → H → Prop
  a2 : Int → Bool → Int → H → Prop
  a3 : Nat → Nat → Int → Int → Bool → H → Prop
noncomputable def s67_0 (_c : Caller Prop FT) (k : KV) (J : J67) (l_0 : Nat) (c_0 : Nat) (n_1 : Int) (n_2 : Int) (h : H) : Prop :=
 cnd (strEq l_0 c_0 0 0)
 (k (.tuple [(.int .i64 (Int.ofNat 0)), (.iface 105 (.int .i64 (Int.ofNat 2)))]) h)
 (idxS l_0 c_0 0 fun m1 =>
 cnd (ibeq (Int.ofNat m1) (Int.ofNat 43))
 (cutS l_0 c_0 1 l_0 fun l2 c3 =>
 J.a3 l2 c3 n_1 n_2 false h)
 (cnd (ibeq (Int.ofNat m1) (Int.ofNat 45))
 (cutS l_0 c_0 1 l_0 fun l4 c5 =>
 J.a3 l4 c5 n_1 n_2 true h)
 (J.a3 l_0 c_0 n_1 n_2 false h)))
noncomputable def s67_1 (_c : Caller Prop FT) (k : KV) (_J : J67) (n_11 : Int) (h : H) : Prop :=
 k (.tuple [(.int .i64 n_11), .nili]) h
noncomputable def s67_2 (_c : Caller Prop FT) (k : KV) (J : J67) (n_2 : Int) (b_8 : Bool) (n_9 : Int) (h : H) : Prop :=
 fI (wrap .i64 (isub n_2 (Int.ofNat 1))) fun n6 =>
 fI (wrap .u64 n6) fun n7 =>
 shlI .u64 (Int.ofNat 1) n7 fun n8 =>
 joinB (fun k9 => gate true (bnot b_8)
 (k9 (ible n8 n_9) h)
 (k9 false h)) fun b11 h10 =>
 cnd b11
 (fI (wrap .u64 (isub n8 (Int.ofNat 1))) fun n12 =>
 fI (wrap .i64 n12) fun n13 =>
 k (.tuple [(.int .i64 n13), (.iface 105 (.int .i64 (Int.ofNat 1)))]) h10)
 (joinB (fun k14 => gate true b_8
 (k14 (iblt n8 n_9) h10)
 (k14 false h10)) fun b16 h15 =>
 cnd b16
 (fI (wrap .i64 n8) fun n17 =>
 oV (unA .neg (.int .i64 n17)) fun v18 =>
 asI .i64 v18 fun n19 =>
 k (.tuple [(.int .i64 n19), (.iface 105 (.int .i64 (Int.ofNat 1)))]) h15)
 (fI (wrap .i64 n_9) fun n20 =>
 cnd b_8
 (oV (unA .neg (.int .i64 n20)) fun v21 =>
 asI .i64 v21 fun n22 =>
 J.a1 n22 h15)
 (J.a1 n20 h15)))
noncomputable def s67_3 (c : Caller Prop FT) (k : KV) (J : J67) (l_0 : Nat) (c_0 : Nat) (n_1 : Int) (n_2 : Int) (b_8 : Bool) (h : H) : Prop :=
 c (.func 82) [(.str l_0 c_0), (.int .i64 n_1), (.int .i64 n_2)] h fun v23 h24 =>
 ext 0 v23 fun v25 =>
 asI .u64 v25 fun n26 =>
 ext 1 v23 fun v27 =>
 oV (binA env .neq 49 v27 .nili) fun v28 =>
 asB v28 fun b29 =>
 joinB (fun k30 => gate true b29
 (oV (binN env .neq 49 v27 (.iface 105 (.int .i64 (Int.ofNat 1)))) fun v33 =>
 asB v33 fun b34 =>
 k30 b34 h24)
 (k30 false h24)) fun b32 h31 =>
 cnd b32
 (k (.tuple [(.int .i64 (Int.ofNat 0)), v27]) h31)
 (cnd (ibeq n_2 (Int.ofNat 0))
 (J.a2 (Int.ofNat 64) b_8 n26 h31)
 (J.a2 n_2 b_8 n26 h31))
noncomputable def z67 : J67 := ⟨fun _ _ _ _ _ => False, fun _ _ => False, fun _ _ _ _ => False, fun _ _ _ _ _ _ => False⟩
noncomputable def r67 (c : Caller Prop FT) (k : KV) (m : Nat) : J67 := Nat.rec z67 (fun _ J => ⟨s67_0 c k J, s67_1 c k J, s67_2 c k J, s67_3 c k J⟩) m
noncomputable def f67 (J : J67) : Jump := fun L f h => match L with
  | 0 => asS (f 0) fun l_0 c_0 => asI .i64 (f 1) fun n_1 => asI .i64 (f 2) fun n_2 => J.a0 l_0 c_0 n_1 n_2 h
  | 1 => asI .i64 (f 11) fun n_11 => J.a1 n_11 h
  | 2 => asI .i64 (f 2) fun n_2 => asB (f 8) fun b_8 => asI .u64 (f 9) fun n_9 => J.a2 n_2 b_8 n_9 h
  | 3 => asS (f 0) fun l_0 c_0 => asI .i64 (f 1) fun n_1 => asI .i64 (f 2) fun n_2 => asB (f 8) fun b_8 => J.a3 l_0 c_0 n_1 n_2 b_8 h
  | _ => False
noncomputable def d67 : Code := Option.rec .skip (fun c => c) Go.Proofs.Tryz.f67.body
noncomputable def q67 : Plans := []
noncomputable def u67 : Cuts := [(.root, 0), ((.r (.r (.r (.r (.r (.r (.r (.r (.r (.r (.r (.r (.r .root))))))))))))), 1), ((.r (.r (.r (.r (.r (.r (.r (.r .root)))))))), 2), ((.r (.r (.r (.r .root)))), 3)]
/- strconv.syntaxError -/
structure J68 where
  a0 : Nat → Nat → Nat → Nat → H → Prop
noncomputable def s68_0 (c : Caller Prop FT) (k : KV) (_J : J68) (l_0 : Nat) (c_0 : Nat) (l_1 : Nat) (c_1 : Nat) (h : H) : Prop :=
 ld1 (.ptr .z 0) h fun v1 =>
 c (.func 83) [(.str l_1 c_1)] h fun v2 h3 =>
 asS v2 fun l4 c5 =>
 ld1 (.ptr .z 0) h3 fun v6 =>
 eqC v6 v1 <|
 oK (exBuild env (env.ty 120) [(0, (.str l_0 c_0)), (1, (.str l4 c5)), (2, v1)] h3) fun v7 h8 =>
 asG v7 fun g9 =>
 chk (Nat.ble 1 (len g9)) <|
 Hp.newK h8 (rowOf 120 g9) fun p10 h11 =>
 k (.ptr p10 0) h11
noncomputable def z68 : J68 := ⟨fun _ _ _ _ _ => False⟩
noncomputable def r68 (c : Caller Prop FT) (k : KV) (m : Nat) : J68 := Nat.rec z68 (fun _ J => ⟨s68_0 c k J⟩) m
noncomputable def f68 (J : J68) : Jump := fun L f h => match L with
  | 0 => asS (f 0) fun l_0 c_0 => asS (f 1) fun l_1 c_1 => J.a0 l_0 c_0 l_1 c_1 h
  | _ => False
noncomputable def d68 : Code := Option.rec .skip (fun c => c) Go.Proofs.Tryz.f68.body
noncomputable def q68 : Plans := [(1, [0, 1, 3, 2, 4, 5, 6])]
noncomputable def u68 : Cuts := [(.root, 0)]
/- strconv.rangeError -/
/- strconv.baseError -/
/- strconv.bitSizeError -/
/- internal/stringslite.IndexByte -/
structure J72 where
  a0 : Nat → Nat → Int → H → Prop
noncomputable def s72_0 (c : Caller Prop FT) (k : KV) (_J : J72) (l_0 : Nat) (c_0 : Nat) (n_1 : Int) (h : H) : Prop :=
 c (.func 86) [(.str l_0 c_0), (.int .u8 n_1)] h fun v1 h2 =>
 asI .i64 v1 fun n3 =>
 k (.int .i64 n3) h2
noncomputable def z72 : J72 := ⟨fun _ _ _ _ => False⟩
noncomputable def r72 (c : Caller Prop FT) (k : KV) (m : Nat) : J72 := Nat.rec z72 (fun _ J => ⟨s72_0 c k J⟩) m
noncomputable def f72 (J : J72) : Jump := fun L f h => match L with
  | 0 => asS (f 0) fun l_0 c_0 => asI .u8 (f 1) fun n_1 => J.a0 l_0 c_0 n_1 h
  | _ => False
noncomputable def d72 : Code := Option.rec .skip (fun c => c) Go.Proofs.Tryz.f72.body
noncomputable def q72 : Plans := []
noncomputable def u72 : Cuts := [(.root, 0)]
/- strings.TrimLeft -/
structure J73 where
  a0 : Nat → Nat → Nat → Nat → H → Prop
noncomputable def s73_0 (c : Caller Prop FT) (k : KV) (_J : J73) (l_0 : Nat) (c_0 : Nat) (l_1 : Nat) (c_1 : Nat) (h : H) : Prop :=
 joinB (fun k1 => gate false (strEq l_0 c_0 0 0)
 (k1 (strEq l_1 c_1 0 0) h)
 (k1 true h)) fun b3 h2 =>
 cnd b3
 (k (.str l_0 c_0) h2)
 (joinB (fun k4 => gate true (ibeq (Int.ofNat l_1) (Int.ofNat 1))
 (idxS l_1 c_1 0 fun m7 =>
 k4 (iblt (Int.ofNat m7) (Int.ofNat 128)) h2)
 (k4 false h2)) fun b6 h5 =>
 cnd b6
 (idxS l_1 c_1 0 fun m8 =>
 c (.func 47) [(.str l_0 c_0), (.int .u8 (Int.ofNat m8))] h5 fun v9 h10 =>
 asS v9 fun l11 c12 =>
 k (.str l11 c12) h10)
 (c (.func 49) [(.str l_1 c_1)] h5 fun v13 h14 =>
 ext 0 v13 fun v15 =>
 ext 1 v13 fun v16 =>
 asB v16 fun b17 =>
 Hp.newK h14 ob89 fun p18 h19 =>
 stn 256 (.ptr p18 0) v15 h19 fun h20 =>
 cnd b17
 (c (.func 50) [(.str l_0 c_0), (.ptr p18 0)] h20 fun v21 h22 =>
 asS v21 fun l23 c24 =>
 k (.str l23 c24) h22)
 (c (.func 52) [(.str l_0 c_0), (.str l_1 c_1)] h20 fun v25 h26 =>
 asS v25 fun l27 c28 =>
 k (.str l27 c28) h26)))
noncomputable def z73 : J73 := ⟨fun _ _ _ _ _ => False⟩
noncomputable def r73 (c : Caller Prop FT) (k : KV) (m : Nat) : J73 := Nat.rec z73 (fun _ J => ⟨s73_0 c k J⟩) m
noncomputable def f73 (J : J73) : Jump := fun L f h => match L with
  | 0 => asS (f 0) fun l_0 c_0 => asS (f 1) fun l_1 c_1 => J.a0 l_0 c_0 l_1 c_1 h
  | _ => False
noncomputable def d73 : Code := Option.rec .skip (fun c => c) Go.Proofs.Tryz.f73.body
noncomputable def q73 : Plans := []
noncomputable def u73 : Cuts := [(.root, 0)]
/- (*strings.Builder).Grow -/
structure J74 where
  a0 : AV → Int → H → Prop
  a1 : AV → Int → H → Prop
noncomputable def s74_0 (c : Caller Prop FT) (_k : KV) (J : J74) (v_0 : AV) (n_1 : Int) (h : H) : Prop :=
 c (.func 24) [v_0] h fun _ h2 =>
 cnd (iblt n_1 (Int.ofNat 0))
 (False)
 (J.a1 v_0 n_1 h2)
noncomputable def s74_1 (c : Caller Prop FT) (k : KV) (_J : J74) (v_0 : AV) (n_1 : Int) (h : H) : Prop :=
 oK (exNil v_0 h) fun v3 h4 =>
 fAddr 1 v3 fun v5 =>
 ld1 v5 h4 fun v6 =>
 oK (builtinA env .cap [37] [v6] h4) fun v7 h8 =>
 asI .i64 v7 fun n9 =>
 oK (exNil v_0 h8) fun v10 h11 =>
 fAddr 1 v10 fun v12 =>
 ld1 v12 h11 fun v13 =>
 lenV v13 fun m14 =>
 fI (wrap .i64 (isub n9 (Int.ofNat m14))) fun n15 =>
 cnd (iblt n15 n_1)
 (c (.func 87) [v_0, (.int .i64 n_1)] h11 fun _ h17 =>
 k (.tuple []) h17)
 (k (.tuple []) h11)
noncomputable def z74 : J74 := ⟨fun _ _ _ => False, fun _ _ _ => False⟩
noncomputable def r74 (c : Caller Prop FT) (k : KV) (m : Nat) : J74 := Nat.rec z74 (fun _ J => ⟨s74_0 c k J, s74_1 c k J⟩) m
noncomputable def f74 (J : J74) : Jump := fun L f h => match L with
  | 0 => asI .i64 (f 1) fun n_1 => J.a0 (f 0) n_1 h
  | 1 => asI .i64 (f 1) fun n_1 => J.a1 (f 0) n_1 h
  | _ => False
noncomputable def d74 : Code := Option.rec .skip (fun c => c) Go.Proofs.Tryz.f74.body
noncomputable def q74 : Plans := [(3, [0, 1, 2, 3, 4, 5, 6, 7, 8, 9, 10, 11, 12])]
noncomputable def u74 : Cuts := [(.root, 0), ((.r (.r .root)), 1)]
/- strings.Map -/
/- unicode.ToLower -/
/- unicode/utf8.ValidRune -/
/- internal/bytealg.Cutover -/
structure J78 where
  a0 : Int → H → Prop
noncomputable def s78_0 (_c : Caller Prop FT) (k : KV) (_J : J78) (n_0 : Int) (h : H) : Prop :=
 fI (wrap .i64 (iadd n_0 (Int.ofNat 16))) fun n1 =>
 quoI .i64 n1 (Int.ofNat 8) fun n2 =>
 k (.int .i64 n2) h
noncomputable def z78 : J78 := ⟨fun _ _ => False⟩
noncomputable def r78 (c : Caller Prop FT) (k : KV) (m : Nat) : J78 := Nat.rec z78 (fun _ J => ⟨s78_0 c k J⟩) m
noncomputable def f78 (J : J78) : Jump := fun L f h => match L with
  | 0 => asI .i64 (f 0) fun n_0 => J.a0 n_0 h
  | _ => False
noncomputable def d78 : Code := Option.rec .skip (fun c => c) Go.Proofs.Tryz.f78.body
noncomputable def q78 : Plans := []
noncomputable def u78 : Cuts := [(.root, 0)]
/- unicode/utf8.decodeRuneInStringSlow -/
/- unicode/utf8.RuneStart -/
/- internal/strconv.ParseUint -/
structure J82 where
  a0 : Nat → Nat → Int → Int → H → Prop
  a1 : Int → Bool → Nat → Nat → Int → Int → Bool → Int → AV → Int → Int → H → Prop
  a2 : Int → Bool → Nat → Nat → Int → Int → Bool → Int → Int → AV → Int → Int → H → Prop
  a3 : Nat → Nat → Int → Int → Bool → Nat → Nat → Int → H → Prop
  a4 : Nat → Nat → Int → Int → Bool → Nat → Nat → H → Prop
  a5 : Nat → Nat → Int → Int → Bool → Nat → Nat → H → Prop
noncomputable def s82_0 (c : Caller Prop FT) (k : KV) (J : J82) (l_0 : Nat) (c_0 : Nat) (n_1 : Int) (n_2 : Int) (h : H) : Prop :=
 cnd (strEq l_0 c_0 0 0)
 (k (.tuple [(.int .u64 (Int.ofNat 0)), (.iface 105 (.int .i64 (Int.ofNat 2)))]) h)
 (joinB (fun k1 => gate true (ible (Int.ofNat 2) n_1)
 (k1 (ible n_1 (Int.ofNat 36)) h)
 (k1 false h)) fun b3 h2 =>
 cnd b3
 (J.a5 l_0 c_0 n_1 n_2 (ibeq n_1 (Int.ofNat 0)) l_0 c_0 h2)
 (cnd (ibeq n_1 (Int.ofNat 0))
 (idxS l_0 c_0 0 fun m4 =>
 cnd (ibeq (Int.ofNat m4) (Int.ofNat 48))
 (joinB (fun k5 => gate true (ible (Int.ofNat 3) (Int.ofNat l_0))
 (idxS l_0 c_0 1 fun m8 =>
 c (.func 92) [(.int .u8 (Int.ofNat m8))] h2 fun v9 h10 =>
 asI .u8 v9 fun n11 =>
 k5 (ibeq n11 (Int.ofNat 98)) h10)
 (k5 false h2)) fun b7 h6 =>
 cnd b7
 (cutS l_0 c_0 2 l_0 fun l12 c13 =>
 J.a5 l12 c13 (Int.ofNat 2) n_2 (ibeq n_1 (Int.ofNat 0)) l_0 c_0 h6)
 (joinB (fun k14 => gate true (ible (Int.ofNat 3) (Int.ofNat l_0))
 (idxS l_0 c_0 1 fun m17 =>
 c (.func 92) [(.int .u8 (Int.ofNat m17))] h6 fun v18 h19 =>
 asI .u8 v18 fun n20 =>
 k14 (ibeq n20 (Int.ofNat 111)) h19)
 (k14 false h6)) fun b16 h15 =>
 cnd b16
 (cutS l_0 c_0 2 l_0 fun l21 c22 =>
 J.a5 l21 c22 (Int.ofNat 8) n_2 (ibeq n_1 (Int.ofNat 0)) l_0 c_0 h15)
 (joinB (fun k23 => gate true (ible (Int.ofNat 3) (Int.ofNat l_0))
 (idxS l_0 c_0 1 fun m26 =>
 c (.func 92) [(.int .u8 (Int.ofNat m26))] h15 fun v27 h28 =>
 asI .u8 v27 fun n29 =>
 k23 (ibeq n29 (Int.ofNat 120)) h28)
 (k23 false h15)) fun b25 h24 =>
 cnd b25
 (cutS l_0 c_0 2 l_0 fun l30 c31 =>
 J.a5 l30 c31 (Int.ofNat 16) n_2 (ibeq n_1 (Int.ofNat 0)) l_0 c_0 h24)
 (cutS l_0 c_0 1 l_0 fun l32 c33 =>
 J.a5 l32 c33 (Int.ofNat 8) n_2 (ibeq n_1 (Int.ofNat 0)) l_0 c_0 h24))))
 (J.a5 l_0 c_0 (Int.ofNat 10) n_2 (ibeq n_1 (Int.ofNat 0)) l_0 c_0 h2))
 (k (.tuple [(.int .u64 (Int.ofNat 0)), (.iface 105 (.int .i64 (Int.ofNat 3)))]) h2)))
noncomputable def s82_1 (c : Caller Prop FT) (k : KV) (J : J82) (n_1 : Int) (b_8 : Bool) (l_9 : Nat) (c_9 : Nat) (n_10 : Int) (n_11 : Int) (b_12 : Bool) (n_13 : Int) (v_99 : AV) (n_100 : Int) (n_101 : Int) (h : H) : Prop :=
 cnd (iblt n_101 n_100)
 (natI n_101 fun m34 =>
 elemA 1 m34 v_99 fun v35 =>
 ld1 v35 h fun v36 =>
 asI .u8 v36 fun n37 =>
 joinB (fun k38 => gate true (ibeq n37 (Int.ofNat 95))
 (k38 b_8 h)
 (k38 false h)) fun b40 h39 =>
 cnd b40
 (fI (wrap .i64 (iadd n_101 (Int.ofNat 1))) fun n41 =>
 J.a1 n_1 b_8 l_9 c_9 n_10 n_11 true n_13 v_99 n_100 n41 h39)
 (joinB (fun k42 => gate true (ible (Int.ofNat 48) n37)
 (k42 (ible n37 (Int.ofNat 57)) h39)
 (k42 false h39)) fun b44 h43 =>
 cnd b44
 (fI (wrap .u8 (isub n37 (Int.ofNat 48))) fun n45 =>
 J.a2 n_1 b_8 l_9 c_9 n_10 n_11 b_12 n_13 n45 v_99 n_100 n_101 h43)
 (c (.func 92) [(.int .u8 n37)] h43 fun v46 h47 =>
 asI .u8 v46 fun n48 =>
 joinB (fun k49 => gate true (ible (Int.ofNat 97) n48)
 (c (.func 92) [(.int .u8 n37)] h47 fun v52 h53 =>
 asI .u8 v52 fun n54 =>
 k49 (ible n54 (Int.ofNat 122)) h53)
 (k49 false h47)) fun b51 h50 =>
 cnd b51
 (c (.func 92) [(.int .u8 n37)] h50 fun v55 h56 =>
 asI .u8 v55 fun n57 =>
 fI (wrap .u8 (isub n57 (Int.ofNat 97))) fun n58 =>
 fI (wrap .u8 (iadd n58 (Int.ofNat 10))) fun n59 =>
 J.a2 n_1 b_8 l_9 c_9 n_10 n_11 b_12 n_13 n59 v_99 n_100 n_101 h56)
 (k (.tuple [(.int .u64 (Int.ofNat 0)), (.iface 105 (.int .i64 (Int.ofNat 2)))]) h50))))
 (joinB (fun k60 => gate true b_12
 (c (.func 93) [(.str l_9 c_9)] h fun v63 h64 =>
 asB v63 fun b65 =>
 k60 (bnot b65) h64)
 (k60 false h)) fun b62 h61 =>
 cnd b62
 (k (.tuple [(.int .u64 (Int.ofNat 0)), (.iface 105 (.int .i64 (Int.ofNat 2)))]) h61)
 (k (.tuple [(.int .u64 n_13), .nili]) h61))
noncomputable def s82_2 (_c : Caller Prop FT) (k : KV) (J : J82) (n_1 : Int) (b_8 : Bool) (l_9 : Nat) (c_9 : Nat) (n_10 : Int) (n_11 : Int) (b_12 : Bool) (n_13 : Int) (n_16 : Int) (v_99 : AV) (n_100 : Int) (n_101 : Int) (h : H) : Prop :=
 fI (wrap .u8 n_1) fun n66 =>
 cnd (ible n66 n_16)
 (k (.tuple [(.int .u64 (Int.ofNat 0)), (.iface 105 (.int .i64 (Int.ofNat 2)))]) h)
 (cnd (ible n_10 n_13)
 (k (.tuple [(.int .u64 n_11), (.iface 105 (.int .i64 (Int.ofNat 1)))]) h)
 (fI (wrap .u64 n_1) fun n67 =>
 fI (wrap .u64 (n_13 * n67)) fun n68 =>
 fI (wrap .u64 n_16) fun n69 =>
 fI (wrap .u64 (iadd n68 n69)) fun n70 =>
 joinB (fun k71 => gate false (iblt n70 n68)
 (k71 (iblt n_11 n70) h)
 (k71 true h)) fun b73 h72 =>
 cnd b73
 (k (.tuple [(.int .u64 n_11), (.iface 105 (.int .i64 (Int.ofNat 1)))]) h72)
 (fI (wrap .i64 (iadd n_101 (Int.ofNat 1))) fun n74 =>
 J.a1 n_1 b_8 l_9 c_9 n_10 n_11 b_12 n70 v_99 n_100 n74 h72)))
noncomputable def s82_3 (_c : Caller Prop FT) (_k : KV) (J : J82) (l_0 : Nat) (c_0 : Nat) (n_1 : Int) (n_2 : Int) (b_8 : Bool) (l_9 : Nat) (c_9 : Nat) (n_10 : Int) (h : H) : Prop :=
 fI (wrap .u64 n_2) fun n75 =>
 shlI .u64 (Int.ofNat 1) n75 fun n76 =>
 fI (wrap .u64 (isub n76 (Int.ofNat 1))) fun n77 =>
 oK (convA env h 9 37 (.str l_0 c_0)) fun v78 h79 =>
 lenV v78 fun m80 =>
 J.a1 n_1 b_8 l_9 c_9 n_10 n77 false (Int.ofNat 0) v78 (Int.ofNat m80) (Int.ofNat 0) h79
noncomputable def s82_4 (_c : Caller Prop FT) (_k : KV) (J : J82) (l_0 : Nat) (c_0 : Nat) (n_1 : Int) (n_2 : Int) (b_8 : Bool) (l_9 : Nat) (c_9 : Nat) (h : H) : Prop :=
 cnd (ibeq n_1 (Int.ofNat 10))
 (J.a3 l_0 c_0 n_1 n_2 b_8 l_9 c_9 (Int.ofNat 1844674407370955162) h)
 (cnd (ibeq n_1 (Int.ofNat 16))
 (J.a3 l_0 c_0 n_1 n_2 b_8 l_9 c_9 (Int.ofNat 1152921504606846976) h)
 (fI (wrap .u64 n_1) fun n81 =>
 quoI .u64 (Int.ofNat 18446744073709551615) n81 fun n82 =>
 fI (wrap .u64 (iadd n82 (Int.ofNat 1))) fun n83 =>
 J.a3 l_0 c_0 n_1 n_2 b_8 l_9 c_9 n83 h))
noncomputable def s82_5 (_c : Caller Prop FT) (k : KV) (J : J82) (l_0 : Nat) (c_0 : Nat) (n_1 : Int) (n_2 : Int) (b_8 : Bool) (l_9 : Nat) (c_9 : Nat) (h : H) : Prop :=
 cnd (ibeq n_2 (Int.ofNat 0))
 (J.a4 l_0 c_0 n_1 (Int.ofNat 64) b_8 l_9 c_9 h)
 (joinB (fun k84 => gate false (iblt n_2 (Int.ofNat 0))
 (k84 (iblt (Int.ofNat 64) n_2) h)
 (k84 true h)) fun b86 h85 =>
 cnd b86
 (k (.tuple [(.int .u64 (Int.ofNat 0)), (.iface 105 (.int .i64 (Int.ofNat 4)))]) h85)
 (J.a4 l_0 c_0 n_1 n_2 b_8 l_9 c_9 h85))
noncomputable def z82 : J82 := ⟨fun _ _ _ _ _ => False, fun _ _ _ _ _ _ _ _ _ _ _ _ => False, fun _ _ _ _ _ _ _ _ _ _ _ _ _ => False, fun _ _ _ _ _ _ _ _ _ => False, fun _ _ _ _ _ _ _ _ => False, fun _ _ _ _ _ _ _ _ => False⟩
noncomputable def r82 (c : Caller Prop FT) (k : KV) (m : Nat) : J82 := Nat.rec z82 (fun _ J => ⟨s82_0 c k J, s82_1 c k J, s82_2 c k J, s82_3 c k J, s82_4 c k J, s82_5 c k J⟩) m
noncomputable def f82 (J : J82) : Jump := fun L f h => match L with
  | 0 => asS (f 0) fun l_0 c_0 => asI .i64 (f 1) fun n_1 => asI .i64 (f 2) fun n_2 => J.a0 l_0 c_0 n_1 n_2 h
  | 1 => asI .i64 (f 1) fun n_1 => asB (f 8) fun b_8 => asS (f 9) fun l_9 c_9 => asI .u64 (f 10) fun n_10 => asI .u64 (f 11) fun n_11 => asB (f 12) fun b_12 => asI .u64 (f 13) fun n_13 => asI .i64 (f 100) fun n_100 => asI .i64 (f 101) fun n_101 => J.a1 n_1 b_8 l_9 c_9 n_10 n_11 b_12 n_13 (f 99) n_100 n_101 h
  | 2 => asI .i64 (f 1) fun n_1 => asB (f 8) fun b_8 => asS (f 9) fun l_9 c_9 => asI .u64 (f 10) fun n_10 => asI .u64 (f 11) fun n_11 => asB (f 12) fun b_12 => asI .u64 (f 13) fun n_13 => asI .u8 (f 16) fun n_16 => asI .i64 (f 100) fun n_100 => asI .i64 (f 101) fun n_101 => J.a2 n_1 b_8 l_9 c_9 n_10 n_11 b_12 n_13 n_16 (f 99) n_100 n_101 h
  | 3 => asS (f 0) fun l_0 c_0 => asI .i64 (f 1) fun n_1 => asI .i64 (f 2) fun n_2 => asB (f 8) fun b_8 => asS (f 9) fun l_9 c_9 => asI .u64 (f 10) fun n_10 => J.a3 l_0 c_0 n_1 n_2 b_8 l_9 c_9 n_10 h
  | 4 => asS (f 0) fun l_0 c_0 => asI .i64 (f 1) fun n_1 => asI .i64 (f 2) fun n_2 => asB (f 8) fun b_8 => asS (f 9) fun l_9 c_9 => J.a4 l_0 c_0 n_1 n_2 b_8 l_9 c_9 h
  | 5 => asS (f 0) fun l_0 c_0 => asI .i64 (f 1) fun n_1 => asI .i64 (f 2) fun n_2 => asB (f 8) fun b_8 => asS (f 9) fun l_9 c_9 => J.a5 l_0 c_0 n_1 n_2 b_8 l_9 c_9 h
  | _ => False
noncomputable def d82 : Code := Option.rec .skip (fun c => c) Go.Proofs.Tryz.f82.body
noncomputable def q82 : Plans := []
noncomputable def u82 : Cuts := [(.root, 0), ((.l (.r (.l (.r (.r (.r (.r (.r (.r (.r (.r (.r (.r (.r .root)))))))))))))), 1), ((.r (.r (.r (.l (.l (.r (.r (.l (.l (.r (.l (.r (.r (.r (.r (.r (.r (.r (.r (.r (.r (.r .root)))))))))))))))))))))), 2), ((.r (.r (.r (.r (.r (.r (.r (.r .root)))))))), 3), ((.r (.r (.r (.r (.r (.r .root)))))), 4), ((.r (.r (.r (.r (.r .root))))), 5)]
/- internal/stringslite.Clone -/
structure J83 where
  a0 : Nat → Nat → H → Prop
noncomputable def s83_0 (_c : Caller Prop FT) (k : KV) (_J : J83) (l_0 : Nat) (c_0 : Nat) (h : H) : Prop :=
 cnd (ibeq (Int.ofNat l_0) (Int.ofNat 0))
 (k (.str 0 0) h)
 (oK (withElem env 37 (fun e ei => exMakeSlice (natOf (.int .i64 (Int.ofNat l_0))) (natOf (.int .i64 (Int.ofNat l_0))) h e ei)) fun v1 h2 =>
 oK (builtinA env .copy [37, 9] [v1, (.str l_0 c_0)] h2) fun v3 h4 =>
 asI .i64 v3 fun _ =>
 elemA 1 0 v1 fun v6 =>
 lenV v1 fun m7 =>
 oK (builtinA env .unsafeString [65, 3] [v6, (.int .i64 (Int.ofNat m7))] h4) fun v8 h9 =>
 asS v8 fun l10 c11 =>
 k (.str l10 c11) h9)
noncomputable def z83 : J83 := ⟨fun _ _ _ => False⟩
noncomputable def r83 (c : Caller Prop FT) (k : KV) (m : Nat) : J83 := Nat.rec z83 (fun _ J => ⟨s83_0 c k J⟩) m
noncomputable def f83 (J : J83) : Jump := fun L f h => match L with
  | 0 => asS (f 0) fun l_0 c_0 => J.a0 l_0 c_0 h
  | _ => False
noncomputable def d83 : Code := Option.rec .skip (fun c => c) Go.Proofs.Tryz.f83.body
noncomputable def q83 : Plans := []
noncomputable def u83 : Cuts := [(.root, 0)]
/- errors.New -/
/- strconv.Itoa -/
/- (*strings.Builder).grow -/
structure J87 where
  a0 : AV → Int → H → Prop
noncomputable def s87_0 (c : Caller Prop FT) (k : KV) (_J : J87) (v_0 : AV) (n_1 : Int) (h : H) : Prop :=
 oK (exNil v_0 h) fun v1 h2 =>
 fAddr 1 v1 fun v3 =>
 ld1 v3 h2 fun v4 =>
 oK (builtinA env .cap [37] [v4] h2) fun v5 h6 =>
 asI .i64 v5 fun n7 =>
 fI (wrap .i64 ((Int.ofNat 2) * n7)) fun n8 =>
 fI (wrap .i64 (iadd n8 n_1)) fun n9 =>
 oK (exNil v_0 h6) fun v10 h11 =>
 fAddr 1 v10 fun v12 =>
 ld1 v12 h11 fun v13 =>
 lenV v13 fun m14 =>
 c (.func 95) [(.int .i64 n9)] h11 fun v15 h16 =>
 ld1 v12 h16 fun v17 =>
 eqC v17 v13 <|
 oK (slice3 env h16 37 v15 none (some (natOf (.int .i64 (Int.ofNat m14)))) none) fun v18 h19 =>
 oK (exNil v_0 h19) fun v20 h21 =>
 fAddr 1 v20 fun v22 =>
 ld1 v22 h21 fun v23 =>
 oK (builtinA env .copy [37, 37] [v18, v23] h21) fun v24 h25 =>
 asI .i64 v24 fun _ =>
 oK (exNil v_0 h25) fun v27 h28 =>
 fAddr 1 v27 fun v29 =>
 st1 v29 v18 h28 fun h30 =>
 k (.tuple []) h30
noncomputable def z87 : J87 := ⟨fun _ _ _ => False⟩
noncomputable def r87 (c : Caller Prop FT) (k : KV) (m : Nat) : J87 := Nat.rec z87 (fun _ J => ⟨s87_0 c k J⟩) m
noncomputable def f87 (J : J87) : Jump := fun L f h => match L with
  | 0 => asI .i64 (f 1) fun n_1 => J.a0 (f 0) n_1 h
  | _ => False
noncomputable def d87 : Code := Option.rec .skip (fun c => c) Go.Proofs.Tryz.f87.body
noncomputable def q87 : Plans := [(0, [0, 1, 2, 3, 4, 5, 6, 7, 9, 10, 11, 12, 13, 8, 14, 15])]
noncomputable def u87 : Cuts := [(.root, 0)]
/- unicode/utf8.RuneLen -/
/- (*strings.Builder).WriteRune -/
/- (*strings.Builder).Cap -/
/- unicode.To -/
/- internal/strconv.lower -/
structure J92 where
  a0 : Int → H → Prop
noncomputable def s92_0 (_c : Caller Prop FT) (k : KV) (_J : J92) (n_0 : Int) (h : H) : Prop :=
 bitI Nat.lor .u8 n_0 (Int.ofNat 32) fun n1 =>
 k (.int .u8 n1) h
noncomputable def z92 : J92 := ⟨fun _ _ => False⟩
noncomputable def r92 (c : Caller Prop FT) (k : KV) (m : Nat) : J92 := Nat.rec z92 (fun _ J => ⟨s92_0 c k J⟩) m
noncomputable def f92 (J : J92) : Jump := fun L f h => match L with
  | 0 => asI .u8 (f 0) fun n_0 => J.a0 n_0 h
  | _ => False
noncomputable def d92 : Code := Option.rec .skip (fun c => c) Go.Proofs.Tryz.f92.body
noncomputable def q92 : Plans := []
noncomputable def u92 : Cuts := [(.root, 0)]
/- internal/strconv.underscoreOK -/
/- internal/strconv.Itoa -/
/- unicode/utf8.AppendRune -/
/- unicode.to -/
/- internal/strconv.FormatInt -/
/- unicode/utf8.appendRuneNonASCII -/
/- unicode.lookupCaseRange -/
/- unicode.convertCase -/
/- internal/strconv.small -/
/- internal/strconv.numDigits -/
/- internal/strconv.formatBase10 -/
/- internal/strconv.formatBits -/
/- internal/strconv.log10Pow2 -/
/- math/bits.Len64 -/
/- internal/strconv.bool2[int] -/
/- internal/strconv.isPowerOfTwo -/
/- math/bits.TrailingZeros -/
/- math/bits.TrailingZeros32 -/
/- math/bits.TrailingZeros64 -/
/- gosem.cut.vars -/
structure J143 where
  a0 : H → Prop
noncomputable def s143_0 (c : Caller Prop FT) (k : KV) (_J : J143) (h : H) : Prop :=
 oK (exBuild env (env.ty 159) [(0, (.int .u8 (Int.ofNat 0))), (1, (.int .u8 (Int.ofNat 1))), (2, (.int .u8 (Int.ofNat 28))), (3, (.int .u8 (Int.ofNat 2))), (4, (.int .u8 (Int.ofNat 29))), (5, (.int .u8 (Int.ofNat 14))), (6, (.int .u8 (Int.ofNat 24))), (7, (.int .u8 (Int.ofNat 3))), (8, (.int .u8 (Int.ofNat 30))), (9, (.int .u8 (Int.ofNat 22))), (10, (.int .u8 (Int.ofNat 20))), (11, (.int .u8 (Int.ofNat 15))), (12, (.int .u8 (Int.ofNat 25))), (13, (.int .u8 (Int.ofNat 17))), (14, (.int .u8 (Int.ofNat 4))), (15, (.int .u8 (Int.ofNat 8))), (16, (.int .u8 (Int.ofNat 31))), (17, (.int .u8 (Int.ofNat 27))), (18, (.int .u8 (Int.ofNat 13))), (19, (.int .u8 (Int.ofNat 23))), (20, (.int .u8 (Int.ofNat 21))), (21, (.int .u8 (Int.ofNat 19))), (22, (.int .u8 (Int.ofNat 16))), (23, (.int .u8 (Int.ofNat 7))), (24, (.int .u8 (Int.ofNat 26))), (25, (.int .u8 (Int.ofNat 12))), (26, (.int .u8 (Int.ofNat 18))), (27, (.int .u8 (Int.ofNat 6))), (28, (.int .u8 (Int.ofNat 11))), (29, (.int .u8 (Int.ofNat 5))), (30, (.int .u8 (Int.ofNat 10))), (31, (.int .u8 (Int.ofNat 9)))] h) fun v1 h2 =>
 stn 32 (.ptr (.l (.l (.l .z))) 0) v1 h2 fun h3 =>
 oK (exBuild env (env.ty 160) [(0, (.int .u8 (Int.ofNat 0))), (1, (.int .u8 (Int.ofNat 1))), (2, (.int .u8 (Int.ofNat 56))), (3, (.int .u8 (Int.ofNat 2))), (4, (.int .u8 (Int.ofNat 57))), (5, (.int .u8 (Int.ofNat 49))), (6, (.int .u8 (Int.ofNat 28))), (7, (.int .u8 (Int.ofNat 3))), (8, (.int .u8 (Int.ofNat 61))), (9, (.int .u8 (Int.ofNat 58))), (10, (.int .u8 (Int.ofNat 42))), (11, (.int .u8 (Int.ofNat 50))), (12, (.int .u8 (Int.ofNat 38))), (13, (.int .u8 (Int.ofNat 29))), (14, (.int .u8 (Int.ofNat 17))), (15, (.int .u8 (Int.ofNat 4))), (16, (.int .u8 (Int.ofNat 62))), (17, (.int .u8 (Int.ofNat 47))), (18, (.int .u8 (Int.ofNat 59))), (19, (.int .u8 (Int.ofNat 36))), (20, (.int .u8 (Int.ofNat 45))), (21, (.int .u8 (Int.ofNat 43))), (22, (.int .u8 (Int.ofNat 51))), (23, (.int .u8 (Int.ofNat 22))), (24, (.int .u8 (Int.ofNat 53))), (25, (.int .u8 (Int.ofNat 39))), (26, (.int .u8 (Int.ofNat 33))), (27, (.int .u8 (Int.ofNat 30))), (28, (.int .u8 (Int.ofNat 24))), (29, (.int .u8 (Int.ofNat 18))), (30, (.int .u8 (Int.ofNat 12))), (31, (.int .u8 (Int.ofNat 5))), (32, (.int .u8 (Int.ofNat 63))), (33, (.int .u8 (Int.ofNat 55))), (34, (.int .u8 (Int.ofNat 48))), (35, (.int .u8 (Int.ofNat 27))), (36, (.int .u8 (Int.ofNat 60))), (37, (.int .u8 (Int.ofNat 41))), (38, (.int .u8 (Int.ofNat 37))), (39, (.int .u8 (Int.ofNat 16))), (40, (.int .u8 (Int.ofNat 46))), (41, (.int .u8 (Int.ofNat 35))), (42, (.int .u8 (Int.ofNat 44))), (43, (.int .u8 (Int.ofNat 21))), (44, (.int .u8 (Int.ofNat 52))), (45, (.int .u8 (Int.ofNat 32))), (46, (.int .u8 (Int.ofNat 23))), (47, (.int .u8 (Int.ofNat 11))), (48, (.int .u8 (Int.ofNat 54))), (49, (.int .u8 (Int.ofNat 26))), (50, (.int .u8 (Int.ofNat 40))), (51, (.int .u8 (Int.ofNat 15))), (52, (.int .u8 (Int.ofNat 34))), (53, (.int .u8 (Int.ofNat 20))), (54, (.int .u8 (Int.ofNat 31))), (55, (.int .u8 (Int.ofNat 10))), (56, (.int .u8 (Int.ofNat 25))), (57, (.int .u8 (Int.ofNat 14))), (58, (.int .u8 (Int.ofNat 19))), (59, (.int .u8 (Int.ofNat 9))), (60, (.int .u8 (Int.ofNat 13))), (61, (.int .u8 (Int.ofNat 8))), (62, (.int .u8 (Int.ofNat 7))), (63, (.int .u8 (Int.ofNat 6)))] h3) fun v4 h5 =>
 stn 64 (.ptr (.r (.l (.l .z))) 0) v4 h5 fun h6 =>
 oK (exBuild env (env.ty 154) [(0, (.int .u64 (Int.ofNat 1))), (1, (.int .u64 (Int.ofNat 10))), (2, (.int .u64 (Int.ofNat 100))), (3, (.int .u64 (Int.ofNat 1000))), (4, (.int .u64 (Int.ofNat 10000))), (5, (.int .u64 (Int.ofNat 100000))), (6, (.int .u64 (Int.ofNat 1000000))), (7, (.int .u64 (Int.ofNat 10000000))), (8, (.int .u64 (Int.ofNat 100000000))), (9, (.int .u64 (Int.ofNat 1000000000))), (10, (.int .u64 (Int.ofNat 10000000000))), (11, (.int .u64 (Int.ofNat 100000000000))), (12, (.int .u64 (Int.ofNat 1000000000000))), (13, (.int .u64 (Int.ofNat 10000000000000))), (14, (.int .u64 (Int.ofNat 100000000000000))), (15, (.int .u64 (Int.ofNat 1000000000000000))), (16, (.int .u64 (Int.ofNat 10000000000000000))), (17, (.int .u64 (Int.ofNat 100000000000000000))), (18, (.int .u64 (Int.ofNat 1000000000000000000))), (19, (.int .u64 (Int.ofNat 10000000000000000000)))] h6) fun v7 h8 =>
 stn 20 (.ptr (.r (.r .z)) 0) v7 h8 fun h9 =>
 oK (exBuild env (env.ty 127) [(0, (.int .u8 (Int.ofNat 128))), (1, (.int .u8 (Int.ofNat 191)))] h9) fun v10 h11 =>
 oK (exBuild env (env.ty 127) [(0, (.int .u8 (Int.ofNat 160))), (1, (.int .u8 (Int.ofNat 191)))] h11) fun v12 h13 =>
 oK (exBuild env (env.ty 127) [(0, (.int .u8 (Int.ofNat 128))), (1, (.int .u8 (Int.ofNat 159)))] h13) fun v14 h15 =>
 oK (exBuild env (env.ty 127) [(0, (.int .u8 (Int.ofNat 144))), (1, (.int .u8 (Int.ofNat 191)))] h15) fun v16 h17 =>
 oK (exBuild env (env.ty 127) [(0, (.int .u8 (Int.ofNat 128))), (1, (.int .u8 (Int.ofNat 143)))] h17) fun v18 h19 =>
 oK (exBuild env (env.ty 128) [(0, v10), (1, v12), (2, v14), (3, v16), (4, v18)] h19) fun v20 h21 =>
 stn 32 (.ptr (.r (.l .z)) 0) v20 h21 fun h22 =>
 c (.func 84) [(.str 18 8833536683947734889501819473892098087608694)] h22 fun v23 h24 =>
 st1 (.ptr (.l .z) 0) v23 h24 fun h25 =>
 c (.func 84) [(.str 14 2441610318018593579359549976374889)] h25 fun v26 h27 =>
 st1 (.ptr .z 0) v26 h27 fun h28 =>
 k (.tuple []) h28
noncomputable def z143 : J143 := ⟨fun _ => False⟩
noncomputable def r143 (c : Caller Prop FT) (k : KV) (m : Nat) : J143 := Nat.rec z143 (fun _ J => ⟨s143_0 c k J⟩) m
noncomputable def f143 (J : J143) : Jump := fun L f h => match L with
  | 0 => J.a0 h
  | _ => False
noncomputable def d143 : Code := Option.rec .skip (fun c => c) Go.Proofs.Tryz.f143.body
noncomputable def q143 : Plans := []
noncomputable def u143 : Cuts := [(.root, 0)]
end Go.Den
