/-
  A part of the proof: TD.
-/
import Derived.Test.YtdpnnajfmkpfjaaDoorDenQ
import Derived.Test.YtdpnnajfmkpfjaaDoorProg
import Derived.KernelRfl
namespace Go.Den
set_option maxRecDepth 100000
theorem fset_self {f : FT} {d : Nat} {v : AV} (h : f d = v) : fset f d v = f := by
  funext u
  rw [fset_eq]
  by_cases e : u = d
  · rw [if_pos e, ← h, e]
  · rw [if_neg e]
noncomputable def env : Env := envOf Go.Proofs.Tryd.prog []
def G : Nat := 9
theorem mixed : Go.Proofs.Tryd.prog.follows .mixedOrders = true := by kernel_rfl
theorem envOk : EnvOk Go.Proofs.Tryd.prog env := envOk_of (by kernel_rfl)

noncomputable def ob25 : Ob FT := rowOf 25 [(.int .u64 (Int.ofNat 0)), (.bool false)]
noncomputable def ob28 : Ob FT := rowOf 28 [(.int .u64 (Int.ofNat 0)), (.bool false)]
noncomputable def ob59 : Ob FT := rowOf 59 [.nilp, .nils]
noncomputable def ob69 : Ob FT := rowOf 69 [(.bool false), (.bool false), (.bool false), (.bool false), (.bool false), (.bool false), (.bool false), (.bool false), (.bool false), (.bool false), (.bool false), (.bool false), (.bool false), (.bool false), (.bool false), (.bool false), (.bool false), (.bool false), (.bool false), (.bool false), (.bool false), (.bool false), (.bool false), (.bool false), (.bool false), (.bool false), (.bool false), (.bool false), (.bool false), (.bool false), (.bool false), (.bool false), (.bool false), (.bool false), (.bool false), (.bool false), (.bool false), (.bool false), (.bool false), (.bool false), (.bool false), (.bool false), (.bool false), (.bool false), (.bool false), (.bool false), (.bool false), (.bool false), (.bool false), (.bool false), (.bool false), (.bool false), (.bool false), (.bool false), (.bool false), (.bool false), (.bool false), (.bool false), (.bool false), (.bool false), (.bool false), (.bool false), (.bool false), (.bool false), (.bool false), (.bool false), (.bool false), (.bool false), (.bool false), (.bool false), (.bool false), (.bool false), (.bool false), (.bool false), (.bool false), (.bool false), (.bool false), (.bool false), (.bool false), (.bool false), (.bool false), (.bool false), (.bool false), (.bool false), (.bool false), (.bool false), (.bool false), (.bool false), (.bool false), (.bool false), (.bool false), (.bool false), (.bool false), (.bool false), (.bool false), (.bool false), (.bool false), (.bool false), (.bool false), (.bool false), (.bool false), (.bool false), (.bool false), (.bool false), (.bool false), (.bool false), (.bool false), (.bool false), (.bool false), (.bool false), (.bool false), (.bool false), (.bool false), (.bool false), (.bool false), (.bool false), (.bool false), (.bool false), (.bool false), (.bool false), (.bool false), (.bool false), (.bool false), (.bool false), (.bool false), (.bool false), (.bool false), (.bool false), (.bool false), (.bool false), (.bool false), (.bool false), (.bool false), (.bool false), (.bool false), (.bool false), (.bool false), (.bool false), (.bool false), (.bool false), (.bool false), (.bool false), (.bool false), (.bool false), (.bool false), (.bool false), (.bool false), (.bool false), (.bool false), (.bool false), (.bool false), (.bool false), (.bool false), (.bool false), (.bool false), (.bool false), (.bool false), (.bool false), (.bool false), (.bool false), (.bool false), (.bool false), (.bool false), (.bool false), (.bool false), (.bool false), (.bool false), (.bool false), (.bool false), (.bool false), (.bool false), (.bool false), (.bool false), (.bool false), (.bool false), (.bool false), (.bool false), (.bool false), (.bool false), (.bool false), (.bool false), (.bool false), (.bool false), (.bool false), (.bool false), (.bool false), (.bool false), (.bool false), (.bool false), (.bool false), (.bool false), (.bool false), (.bool false), (.bool false), (.bool false), (.bool false), (.bool false), (.bool false), (.bool false), (.bool false), (.bool false), (.bool false), (.bool false), (.bool false), (.bool false), (.bool false), (.bool false), (.bool false), (.bool false), (.bool false), (.bool false), (.bool false), (.bool false), (.bool false), (.bool false), (.bool false), (.bool false), (.bool false), (.bool false), (.bool false), (.bool false), (.bool false), (.bool false), (.bool false), (.bool false), (.bool false), (.bool false), (.bool false), (.bool false), (.bool false), (.bool false), (.bool false), (.bool false), (.bool false), (.bool false), (.bool false), (.bool false), (.bool false), (.bool false), (.bool false), (.bool false), (.bool false), (.bool false), (.bool false), (.bool false), (.bool false), (.bool false), (.bool false), (.bool false), (.bool false), (.bool false), (.bool false), (.bool false), (.bool false), (.bool false), (.bool false)]
noncomputable def ob115 : Ob FT := rowOf 115 [(.int .u8 (Int.ofNat 0)), (.int .u8 (Int.ofNat 0))]
noncomputable def ob121 : Ob FT := rowOf 121 [(.int .u8 (Int.ofNat 0)), (.int .u8 (Int.ofNat 0)), (.int .u8 (Int.ofNat 0)), (.int .u8 (Int.ofNat 0)), (.int .u8 (Int.ofNat 0)), (.int .u8 (Int.ofNat 0)), (.int .u8 (Int.ofNat 0)), (.int .u8 (Int.ofNat 0)), (.int .u8 (Int.ofNat 0)), (.int .u8 (Int.ofNat 0)), (.int .u8 (Int.ofNat 0)), (.int .u8 (Int.ofNat 0)), (.int .u8 (Int.ofNat 0)), (.int .u8 (Int.ofNat 0)), (.int .u8 (Int.ofNat 0)), (.int .u8 (Int.ofNat 0)), (.int .u8 (Int.ofNat 0)), (.int .u8 (Int.ofNat 0)), (.int .u8 (Int.ofNat 0)), (.int .u8 (Int.ofNat 0)), (.int .u8 (Int.ofNat 0)), (.int .u8 (Int.ofNat 0)), (.int .u8 (Int.ofNat 0)), (.int .u8 (Int.ofNat 0))]
noncomputable def ob132 : Ob FT := rowOf 132 [(.int .u8 (Int.ofNat 0)), (.int .u8 (Int.ofNat 0)), (.int .u8 (Int.ofNat 0)), (.int .u8 (Int.ofNat 0)), (.int .u8 (Int.ofNat 0)), (.int .u8 (Int.ofNat 0)), (.int .u8 (Int.ofNat 0)), (.int .u8 (Int.ofNat 0)), (.int .u8 (Int.ofNat 0)), (.int .u8 (Int.ofNat 0)), (.int .u8 (Int.ofNat 0)), (.int .u8 (Int.ofNat 0)), (.int .u8 (Int.ofNat 0)), (.int .u8 (Int.ofNat 0)), (.int .u8 (Int.ofNat 0)), (.int .u8 (Int.ofNat 0)), (.int .u8 (Int.ofNat 0)), (.int .u8 (Int.ofNat 0)), (.int .u8 (Int.ofNat 0)), (.int .u8 (Int.ofNat 0)), (.int .u8 (Int.ofNat 0)), (.int .u8 (Int.ofNat 0)), (.int .u8 (Int.ofNat 0)), (.int .u8 (Int.ofNat 0)), (.int .u8 (Int.ofNat 0)), (.int .u8 (Int.ofNat 0)), (.int .u8 (Int.ofNat 0)), (.int .u8 (Int.ofNat 0)), (.int .u8 (Int.ofNat 0)), (.int .u8 (Int.ofNat 0)), (.int .u8 (Int.ofNat 0)), (.int .u8 (Int.ofNat 0)), (.int .u8 (Int.ofNat 0)), (.int .u8 (Int.ofNat 0)), (.int .u8 (Int.ofNat 0)), (.int .u8 (Int.ofNat 0)), (.int .u8 (Int.ofNat 0)), (.int .u8 (Int.ofNat 0)), (.int .u8 (Int.ofNat 0)), (.int .u8 (Int.ofNat 0)), (.int .u8 (Int.ofNat 0)), (.int .u8 (Int.ofNat 0)), (.int .u8 (Int.ofNat 0)), (.int .u8 (Int.ofNat 0)), (.int .u8 (Int.ofNat 0)), (.int .u8 (Int.ofNat 0)), (.int .u8 (Int.ofNat 0)), (.int .u8 (Int.ofNat 0)), (.int .u8 (Int.ofNat 0)), (.int .u8 (Int.ofNat 0)), (.int .u8 (Int.ofNat 0)), (.int .u8 (Int.ofNat 0)), (.int .u8 (Int.ofNat 0)), (.int .u8 (Int.ofNat 0)), (.int .u8 (Int.ofNat 0)), (.int .u8 (Int.ofNat 0)), (.int .u8 (Int.ofNat 0)), (.int .u8 (Int.ofNat 0)), (.int .u8 (Int.ofNat 0)), (.int .u8 (Int.ofNat 0)), (.int .u8 (Int.ofNat 0)), (.int .u8 (Int.ofNat 0)), (.int .u8 (Int.ofNat 0)), (.int .u8 (Int.ofNat 0)), (.int .u8 (Int.ofNat 0))]

/- gosem.cut.init -/
structure J2 where
  a0 : H → Prop
noncomputable def s2_0 (c : Caller Prop FT) (k : KV) (_J : J2) (h : H) : Prop :=
 c (.func 1) [] h fun _ h2 =>
 k (.tuple []) h2
noncomputable def z2 : J2 := ⟨fun _ => False⟩
noncomputable def r2 (c : Caller Prop FT) (k : KV) (m : Nat) : J2 := Nat.rec z2 (fun _ J => ⟨s2_0 c k J⟩) m
noncomputable def f2 (J : J2) : Jump := fun L f h => match L with
  | 0 => J.a0 h
  | _ => False
noncomputable def d2 : Code := Option.rec .skip (fun c => c) Go.Proofs.Tryd.f2.body
noncomputable def q2 : Plans := []
noncomputable def u2 : Cuts := [(.root, 0)]
/- oxbow/oxbowlaw13.PnumTexts -/
structure J3 where
  a0 : Nat → Nat → H → Prop
noncomputable def s3_0 (c : Caller Prop FT) (k : KV) (_J : J3) (l_0 : Nat) (c_0 : Nat) (h : H) : Prop :=
 cnd (iblt (Int.ofNat 400) (Int.ofNat l_0))
 (c (.func 8) [] h fun v1 h2 =>
 asB v1 fun b3 =>
 k (.bool b3) h2)
 (c (.func 9) [(.str l_0 c_0)] h fun v4 h5 =>
 ext 0 v4 fun v6 =>
 ext 1 v4 fun v7 =>
 asB v7 fun b8 =>
 Hp.newK h5 ob25 fun p9 h10 =>
 stn 2 (.ptr p9 0) v6 h10 fun h11 =>
 c (.func 10) [(.str l_0 c_0)] h11 fun v12 h13 =>
 ext 0 v12 fun v14 =>
 ext 1 v12 fun v15 =>
 asB v15 fun b16 =>
 Hp.newK h13 ob28 fun p17 h18 =>
 stn 2 (.ptr p17 0) v14 h18 fun h19 =>
 c (.func 11) [(.str l_0 c_0)] h19 fun v20 h21 =>
 ext 0 v20 fun v22 =>
 ext 1 v20 fun v23 =>
 asB v23 fun b24 =>
 Hp.newK h21 ob25 fun p25 h26 =>
 stn 2 (.ptr p25 0) v22 h26 fun h27 =>
 c (.func 12) [(.str l_0 c_0)] h27 fun v28 h29 =>
 ext 0 v28 fun v30 =>
 ext 1 v28 fun v31 =>
 asB v31 fun b32 =>
 Hp.newK h29 ob28 fun p33 h34 =>
 stn 2 (.ptr p33 0) v30 h34 fun h35 =>
 c (.func 13) [(.str l_0 c_0)] h35 fun v36 h37 =>
 ext 0 v36 fun v38 =>
 asS v38 fun l39 c40 =>
 ext 1 v36 fun v41 =>
 asB v41 fun b42 =>
 c (.func 14) [(.str l_0 c_0)] h37 fun v43 h44 =>
 ext 0 v43 fun v45 =>
 asS v45 fun l46 c47 =>
 ext 1 v43 fun v48 =>
 asB v48 fun b49 =>
 ldn 2 (.ptr p9 0) h44 fun v50 =>
 ldn 2 (.ptr p17 0) h44 fun v51 =>
 c (.func 15) [v50, v51] h44 fun v52 h53 =>
 asB v52 fun b54 =>
 joinB (fun k55 => gate true b54
 (oV (binA env .eql 4 (.bool b8) (.bool b16)) fun v58 =>
 asB v58 fun b59 =>
 k55 b59 h53)
 (k55 false h53)) fun b57 h56 =>
 joinB (fun k60 => gate true b57
 (ldn 2 (.ptr p25 0) h56 fun v63 =>
 ldn 2 (.ptr p33 0) h56 fun v64 =>
 c (.func 15) [v63, v64] h56 fun v65 h66 =>
 asB v65 fun b67 =>
 k60 b67 h66)
 (k60 false h56)) fun b62 h61 =>
 joinB (fun k68 => gate true b62
 (oV (binA env .eql 4 (.bool b24) (.bool b32)) fun v71 =>
 asB v71 fun b72 =>
 k68 b72 h61)
 (k68 false h61)) fun b70 h69 =>
 joinB (fun k73 => gate true b70
 (k73 (strEq l39 c40 l46 c47) h69)
 (k73 false h69)) fun b75 h74 =>
 joinB (fun k76 => gate true b75
 (oV (binA env .eql 4 (.bool b42) (.bool b49)) fun v79 =>
 asB v79 fun b80 =>
 k76 b80 h74)
 (k76 false h74)) fun b78 h77 =>
 joinB (fun k81 => gate true b78
 (c (.func 16) [(.str l_0 c_0)] h77 fun v84 h85 =>
 asB v84 fun b86 =>
 c (.func 17) [(.str l_0 c_0)] h85 fun v87 h88 =>
 asB v87 fun b89 =>
 oV (binA env .eql 4 (.bool b86) (.bool b89)) fun v90 =>
 asB v90 fun b91 =>
 k81 b91 h88)
 (k81 false h77)) fun b83 h82 =>
 joinB (fun k92 => gate true b83
 (c (.func 8) [] h82 fun v95 h96 =>
 asB v95 fun b97 =>
 k92 b97 h96)
 (k92 false h82)) fun b94 h93 =>
 k (.bool b94) h93)
noncomputable def z3 : J3 := ⟨fun _ _ _ => False⟩
noncomputable def r3 (c : Caller Prop FT) (k : KV) (m : Nat) : J3 := Nat.rec z3 (fun _ J => ⟨s3_0 c k J⟩) m
noncomputable def f3 (J : J3) : Jump := fun L f h => match L with
  | 0 => asS (f 0) fun l_0 c_0 => J.a0 l_0 c_0 h
  | _ => False
noncomputable def d3 : Code := Option.rec .skip (fun c => c) Go.Proofs.Tryd.f3.body
noncomputable def q3 : Plans := []
noncomputable def u3 : Cuts := [(.root, 0)]
/- oxbow/oxbowlaw13.PnumForms -/
structure J4 where
  a0 : Int → Int → H → Prop
  a1 : Int → AV → Int → Int → H → Prop
  a2 : Int → AV → Int → Int → Nat → Nat → Int → H → Prop
  a3 : Int → AV → Int → Int → Nat → Nat → H → Prop
  a4 : Int → AV → Int → Int → Nat → Nat → H → Prop
  a5 : Int → AV → Int → Int → H → Prop
  a6 : Int → AV → Int → Int → Bool → AV → Bool → Bool → Bool → Bool → H → Prop
noncomputable def s4_0 (c : Caller Prop FT) (_k : KV) (J : J4) (n_0 : Int) (n_1 : Int) (h : H) : Prop :=
 oK (withElem env 35 (fun e ei => exBuildSlice 11 [(0, (.str 0 0)), (1, (.str 1 117)), (2, (.str 1 85)), (3, (.str 1 108)), (4, (.str 1 76)), (5, (.str 2 27756)), (6, (.str 2 19532)), (7, (.str 2 27765)), (8, (.str 2 21836)), (9, (.str 3 5000309)), (10, (.str 3 5598316))] h e ei)) fun v1 h2 =>
 lenV v1 fun m3 =>
 c (.func 18) [(.int .i64 n_1), (.int .i64 (Int.ofNat m3))] h2 fun v4 h5 =>
 asI .i64 v4 fun n6 =>
 J.a1 n_0 v1 n6 (Int.ofNat 8) h5
noncomputable def s4_1 (c : Caller Prop FT) (k : KV) (J : J4) (n_0 : Int) (v_5 : AV) (n_6 : Int) (n_7 : Int) (h : H) : Prop :=
 cnd (ible n_7 (Int.ofNat 16))
 (joinB (fun k7 => gate true (bnot (ibeq n_7 (Int.ofNat 8)))
 (k7 (bnot (ibeq n_7 (Int.ofNat 10))) h)
 (k7 false h)) fun b9 h8 =>
 joinB (fun k10 => gate true b9
 (k10 (bnot (ibeq n_7 (Int.ofNat 16))) h8)
 (k10 false h8)) fun b12 h11 =>
 cnd b12
 (J.a5 n_0 v_5 n_6 n_7 h11)
 (J.a2 n_0 v_5 n_6 n_7 0 0 n_0 h11))
 (c (.func 8) [] h fun v13 h14 =>
 asB v13 fun b15 =>
 k (.bool b15) h14)
noncomputable def s4_2 (_c : Caller Prop FT) (_k : KV) (J : J4) (n_0 : Int) (v_5 : AV) (n_6 : Int) (n_7 : Int) (l_8 : Nat) (c_8 : Nat) (n_9 : Int) (h : H) : Prop :=
 cnd (iblt (Int.ofNat 0) n_9)
 (fI (wrap .u64 n_7) fun n16 =>
 remI n_9 n16 fun n17 =>
 natI n17 fun m18 =>
 idxS 16 136107713667768957684761770045455085872 m18 fun m19 =>
 oK (withElem env 37 (fun e ei => exBuildSlice 1 [(0, (.int .u8 (Int.ofNat m19)))] h e ei)) fun v20 h21 =>
 oK (convA env h21 37 9 v20) fun v22 h23 =>
 asS v22 fun l24 c25 =>
 catS l24 c25 l_8 c_8 fun l26 c27 =>
 fI (wrap .u64 n_7) fun n28 =>
 quoI .u64 n_9 n28 fun n29 =>
 J.a2 n_0 v_5 n_6 n_7 l26 c27 n29 h23)
 (cnd (ibeq n_7 (Int.ofNat 8))
 (catS 1 48 l_8 c_8 fun l30 c31 =>
 J.a4 n_0 v_5 n_6 n_7 l30 c31 h)
 (cnd (ibeq n_7 (Int.ofNat 16))
 (cnd (strEq l_8 c_8 0 0)
 (J.a3 n_0 v_5 n_6 n_7 1 48 h)
 (J.a3 n_0 v_5 n_6 n_7 l_8 c_8 h))
 (cnd (strEq l_8 c_8 0 0)
 (J.a4 n_0 v_5 n_6 n_7 1 48 h)
 (J.a4 n_0 v_5 n_6 n_7 l_8 c_8 h))))
noncomputable def s4_3 (_c : Caller Prop FT) (_k : KV) (J : J4) (n_0 : Int) (v_5 : AV) (n_6 : Int) (n_7 : Int) (l_8 : Nat) (c_8 : Nat) (h : H) : Prop :=
 catS 2 30768 l_8 c_8 fun l32 c33 =>
 J.a4 n_0 v_5 n_6 n_7 l32 c33 h
noncomputable def s4_4 (c : Caller Prop FT) (_k : KV) (J : J4) (n_0 : Int) (v_5 : AV) (n_6 : Int) (n_7 : Int) (l_8 : Nat) (c_8 : Nat) (h : H) : Prop :=
 joinB (fun k34 => gate false (ibeq n_6 (Int.ofNat 1))
 (k34 (ibeq n_6 (Int.ofNat 2)) h)
 (k34 true h)) fun b36 h35 =>
 joinB (fun k37 => gate false b36
 (k37 (ible (Int.ofNat 7) n_6) h35)
 (k37 true h35)) fun b39 h38 =>
 joinB (fun k40 => gate false b39
 (k40 (iblt (Int.ofNat 9223372036854775807) n_0) h38)
 (k40 true h38)) fun b42 h41 =>
 natI n_6 fun m43 =>
 elemA 1 m43 v_5 fun v44 =>
 ld1 v44 h41 fun v45 =>
 asS v45 fun l46 c47 =>
 catS l_8 c_8 l46 c47 fun l48 c49 =>
 c (.func 9) [(.str l48 c49)] h41 fun v50 h51 =>
 ext 0 v50 fun v52 =>
 ext 1 v50 fun v53 =>
 asB v53 fun b54 =>
 Hp.newK h51 ob25 fun p55 h56 =>
 stn 2 (.ptr p55 0) v52 h56 fun h57 =>
 catS l_8 c_8 1 48 fun l58 c59 =>
 natI n_6 fun m60 =>
 elemA 1 m60 v_5 fun v61 =>
 ld1 v61 h57 fun v62 =>
 asS v62 fun l63 c64 =>
 catS l58 c59 l63 c64 fun l65 c66 =>
 c (.func 9) [(.str l65 c66)] h57 fun v67 h68 =>
 ext 0 v67 fun v69 =>
 ext 1 v67 fun v70 =>
 asB v70 fun b71 =>
 Hp.newK h68 ob25 fun p72 h73 =>
 stn 2 (.ptr p72 0) v69 h73 fun h74 =>
 natI n_6 fun m75 =>
 elemA 1 m75 v_5 fun v76 =>
 ld1 v76 h74 fun v77 =>
 asS v77 fun l78 c79 =>
 catS l_8 c_8 l78 c79 fun l80 c81 =>
 catS l80 c81 1 120 fun l82 c83 =>
 c (.func 9) [(.str l82 c83)] h74 fun v84 h85 =>
 ext 0 v84 fun v86 =>
 ext 1 v84 fun v87 =>
 asB v87 fun b88 =>
 Hp.newK h85 ob25 fun p89 h90 =>
 stn 2 (.ptr p89 0) v86 h90 fun h91 =>
 catS l_8 c_8 2 19564 fun l92 c93 =>
 c (.func 9) [(.str l92 c93)] h91 fun v94 h95 =>
 ext 0 v94 fun v96 =>
 ext 1 v94 fun v97 =>
 asB v97 fun b98 =>
 Hp.newK h95 ob25 fun p99 h100 =>
 stn 2 (.ptr p99 0) v96 h100 fun h101 =>
 J.a6 n_0 v_5 n_6 n_7 b42 (.ptr p55 0) b54 b71 b88 b98 h101
noncomputable def s4_5 (_c : Caller Prop FT) (_k : KV) (J : J4) (n_0 : Int) (v_5 : AV) (n_6 : Int) (n_7 : Int) (h : H) : Prop :=
 fI (wrap .i64 (iadd n_7 (Int.ofNat 1))) fun n102 =>
 J.a1 n_0 v_5 n_6 n102 h
noncomputable def s4_6 (_c : Caller Prop FT) (k : KV) (J : J4) (n_0 : Int) (v_5 : AV) (n_6 : Int) (n_7 : Int) (b_10 : Bool) (v_11 : AV) (b_12 : Bool) (b_14 : Bool) (b_16 : Bool) (b_18 : Bool) (h : H) : Prop :=
 joinB (fun k103 => gate false (bnot b_12)
 (ldn 2 v_11 h fun v106 =>
 oK (exBuild env (env.ty 25) [(0, (.int .u64 n_0)), (1, (.bool b_10))] h) fun v107 h108 =>
 oV (binA env .neq 25 v106 v107) fun v109 =>
 asB v109 fun b110 =>
 k103 b110 h108)
 (k103 true h)) fun b105 h104 =>
 joinB (fun k111 => gate false b105
 (k111 b_16 h104)
 (k111 true h104)) fun b113 h112 =>
 joinB (fun k114 => gate false b113
 (k114 b_18 h112)
 (k114 true h112)) fun b116 h115 =>
 joinB (fun k117 => gate false b116
 (joinB (fun k120 => gate true (iblt (Int.ofNat 2305843009213693952) n_0)
 (k120 b_14 h115)
 (k120 false h115)) fun b122 h121 =>
 k117 b122 h121)
 (k117 true h115)) fun b119 h118 =>
 cnd b119
 (k (.bool false) h118)
 (J.a5 n_0 v_5 n_6 n_7 h118)
noncomputable def z4 : J4 := ⟨fun _ _ _ => False, fun _ _ _ _ _ => False, fun _ _ _ _ _ _ _ _ => False, fun _ _ _ _ _ _ _ => False, fun _ _ _ _ _ _ _ => False, fun _ _ _ _ _ => False, fun _ _ _ _ _ _ _ _ _ _ _ => False⟩
noncomputable def r4 (c : Caller Prop FT) (k : KV) (m : Nat) : J4 := Nat.rec z4 (fun _ J => ⟨s4_0 c k J, s4_1 c k J, s4_2 c k J, s4_3 c k J, s4_4 c k J, s4_5 c k J, s4_6 c k J⟩) m
noncomputable def f4 (J : J4) : Jump := fun L f h => match L with
  | 0 => asI .u64 (f 0) fun n_0 => asI .i64 (f 1) fun n_1 => J.a0 n_0 n_1 h
  | 1 => asI .u64 (f 0) fun n_0 => asI .i64 (f 6) fun n_6 => asI .i64 (f 7) fun n_7 => J.a1 n_0 (f 5) n_6 n_7 h
  | 2 => asI .u64 (f 0) fun n_0 => asI .i64 (f 6) fun n_6 => asI .i64 (f 7) fun n_7 => asS (f 8) fun l_8 c_8 => asI .u64 (f 9) fun n_9 => J.a2 n_0 (f 5) n_6 n_7 l_8 c_8 n_9 h
  | 3 => asI .u64 (f 0) fun n_0 => asI .i64 (f 6) fun n_6 => asI .i64 (f 7) fun n_7 => asS (f 8) fun l_8 c_8 => J.a3 n_0 (f 5) n_6 n_7 l_8 c_8 h
  | 4 => asI .u64 (f 0) fun n_0 => asI .i64 (f 6) fun n_6 => asI .i64 (f 7) fun n_7 => asS (f 8) fun l_8 c_8 => J.a4 n_0 (f 5) n_6 n_7 l_8 c_8 h
  | 5 => asI .u64 (f 0) fun n_0 => asI .i64 (f 6) fun n_6 => asI .i64 (f 7) fun n_7 => J.a5 n_0 (f 5) n_6 n_7 h
  | 6 => asI .u64 (f 0) fun n_0 => asI .i64 (f 6) fun n_6 => asI .i64 (f 7) fun n_7 => asB (f 10) fun b_10 => asB (f 12) fun b_12 => asB (f 14) fun b_14 => asB (f 16) fun b_16 => asB (f 18) fun b_18 => J.a6 n_0 (f 5) n_6 n_7 b_10 (f 11) b_12 b_14 b_16 b_18 h
  | _ => False
noncomputable def d4 : Code := Option.rec .skip (fun c => c) Go.Proofs.Tryd.f4.body
noncomputable def q4 : Plans := []
noncomputable def u4 : Cuts := [(.root, 0), ((.l (.r (.l (.r (.r (.r .root)))))), 1), ((.l (.r (.l (.r (.r (.l (.l (.r (.l (.l (.r (.l (.r (.r (.r .root))))))))))))))), 2), ((.r (.l (.r (.r (.r (.l (.r (.l (.r (.r (.r (.l (.l (.r (.l (.l (.r (.l (.r (.r (.r .root))))))))))))))))))))), 3), ((.r (.r (.r (.r (.l (.l (.r (.l (.l (.r (.l (.r (.r (.r .root)))))))))))))), 4), ((.r (.r (.l (.l (.r (.l (.r (.r (.r .root))))))))), 5), ((.r (.r (.r (.r (.r (.r (.r (.r (.r (.l (.l (.r (.l (.l (.r (.l (.r (.r (.r .root))))))))))))))))))), 6)]
/- oxbow/oxbowlaw13.PnumBytes -/
structure J5 where
  a0 : AV → Int → H → Prop
  a1 : AV → Int → Nat → Nat → Int → H → Prop
  a2 : AV → Int → Nat → Nat → Int → H → Prop
noncomputable def s5_0 (c : Caller Prop FT) (k : KV) (J : J5) (v_0 : AV) (n_1 : Int) (h : H) : Prop :=
 lenV v_0 fun m1 =>
 cnd (iblt (Int.ofNat 100) (Int.ofNat m1))
 (c (.func 8) [] h fun v2 h3 =>
 asB v2 fun b4 =>
 k (.bool b4) h3)
 (J.a1 v_0 n_1 0 0 (Int.ofNat 0) h)
noncomputable def s5_1 (c : Caller Prop FT) (k : KV) (J : J5) (v_0 : AV) (n_1 : Int) (l_5 : Nat) (c_5 : Nat) (n_6 : Int) (h : H) : Prop :=
 lenV v_0 fun m5 =>
 cnd (iblt n_6 (Int.ofNat m5))
 (natI n_6 fun m6 =>
 elemA 1 m6 v_0 fun v7 =>
 ld1 v7 h fun v8 =>
 asI .u8 v8 fun n9 =>
 joinB (fun k10 => gate false (ibeq n9 (Int.ofNat 34))
 (k10 (ibeq n9 (Int.ofNat 39)) h)
 (k10 true h)) fun b12 h11 =>
 joinB (fun k13 => gate false b12
 (k13 (ibeq n9 (Int.ofNat 92)) h11)
 (k13 true h11)) fun b15 h14 =>
 joinB (fun k16 => gate false b15
 (k16 (ibeq n9 (Int.ofNat 63)) h14)
 (k16 true h14)) fun b18 h17 =>
 cnd b18
 (catS l_5 c_5 1 92 fun l19 c20 =>
 oK (withElem env 37 (fun e ei => exBuildSlice 1 [(0, (.int .u8 n9))] h17 e ei)) fun v21 h22 =>
 oK (convA env h22 37 9 v21) fun v23 h24 =>
 asS v23 fun l25 c26 =>
 catS l19 c20 l25 c26 fun l27 c28 =>
 J.a2 v_0 n_1 l27 c28 n_6 h24)
 (cnd (ibeq n9 (Int.ofNat 10))
 (catS l_5 c_5 2 28252 fun l29 c30 =>
 J.a2 v_0 n_1 l29 c30 n_6 h17)
 (fI (wrap .i64 (iadd n_1 n_6)) fun n31 =>
 c (.func 18) [(.int .i64 n31), (.int .i64 (Int.ofNat 3))] h17 fun v32 h33 =>
 asI .i64 v32 fun n34 =>
 cnd (ibeq n34 (Int.ofNat 1))
 (catS l_5 c_5 1 92 fun l35 c36 =>
 quoI .u8 n9 (Int.ofNat 64) fun n37 =>
 fI (wrap .u8 (iadd (Int.ofNat 48) n37)) fun n38 =>
 quoI .u8 n9 (Int.ofNat 8) fun n39 =>
 remI n39 (Int.ofNat 8) fun n40 =>
 fI (wrap .u8 (iadd (Int.ofNat 48) n40)) fun n41 =>
 remI n9 (Int.ofNat 8) fun n42 =>
 fI (wrap .u8 (iadd (Int.ofNat 48) n42)) fun n43 =>
 oK (withElem env 37 (fun e ei => exBuildSlice 3 [(0, (.int .u8 n38)), (1, (.int .u8 n41)), (2, (.int .u8 n43))] h33 e ei)) fun v44 h45 =>
 oK (convA env h45 37 9 v44) fun v46 h47 =>
 asS v46 fun l48 c49 =>
 catS l35 c36 l48 c49 fun l50 c51 =>
 J.a2 v_0 n_1 l50 c51 n_6 h47)
 (fI (wrap .i64 (iadd n_1 n_6)) fun n52 =>
 c (.func 18) [(.int .i64 n52), (.int .i64 (Int.ofNat 3))] h33 fun v53 h54 =>
 asI .i64 v53 fun n55 =>
 joinB (fun k56 => gate true (ibeq n55 (Int.ofNat 2))
 (fI (wrap .i64 (iadd n_6 (Int.ofNat 1))) fun n59 =>
 lenV v_0 fun m60 =>
 k56 (ibeq n59 (Int.ofNat m60)) h54)
 (k56 false h54)) fun b58 h57 =>
 cnd b58
 (catS l_5 c_5 2 30812 fun l61 c62 =>
 quoI .u8 n9 (Int.ofNat 16) fun n63 =>
 natI n63 fun m64 =>
 idxS 16 93405612720827812017303888595717861680 m64 fun m65 =>
 remI n9 (Int.ofNat 16) fun n66 =>
 natI n66 fun m67 =>
 idxS 16 136107713667768957684761770045455085872 m67 fun m68 =>
 oK (withElem env 37 (fun e ei => exBuildSlice 2 [(0, (.int .u8 (Int.ofNat m65))), (1, (.int .u8 (Int.ofNat m68)))] h57 e ei)) fun v69 h70 =>
 oK (convA env h70 37 9 v69) fun v71 h72 =>
 asS v71 fun l73 c74 =>
 catS l61 c62 l73 c74 fun l75 c76 =>
 J.a2 v_0 n_1 l75 c76 n_6 h72)
 (oK (withElem env 37 (fun e ei => exBuildSlice 1 [(0, (.int .u8 n9))] h57 e ei)) fun v77 h78 =>
 oK (convA env h78 37 9 v77) fun v79 h80 =>
 asS v79 fun l81 c82 =>
 catS l_5 c_5 l81 c82 fun l83 c84 =>
 J.a2 v_0 n_1 l83 c84 n_6 h80)))))
 (catS 1 34 l_5 c_5 fun l85 c86 =>
 catS l85 c86 1 34 fun l87 c88 =>
 c (.func 13) [(.str l87 c88)] h fun v89 h90 =>
 ext 0 v89 fun v91 =>
 asS v91 fun l92 c93 =>
 ext 1 v89 fun v94 =>
 asB v94 fun b95 =>
 catS 3 2242677 l_5 c_5 fun l96 c97 =>
 catS l96 c97 1 34 fun l98 c99 =>
 c (.func 13) [(.str l98 c99)] h90 fun v100 h101 =>
 ext 0 v100 fun v102 =>
 asS v102 fun l103 c104 =>
 ext 1 v100 fun v105 =>
 asB v105 fun b106 =>
 catS 2 10060 l_5 c_5 fun l107 c108 =>
 catS l107 c108 1 39 fun l109 c110 =>
 c (.func 13) [(.str l109 c110)] h101 fun v111 h112 =>
 ext 0 v111 fun v113 =>
 asS v113 fun l114 c115 =>
 ext 1 v111 fun v116 =>
 asB v116 fun b117 =>
 catS 1 34 l_5 c_5 fun l118 c119 =>
 catS l118 c119 2 8796 fun l120 c121 =>
 c (.func 13) [(.str l120 c121)] h112 fun v122 h123 =>
 ext 0 v122 fun v124 =>
 asS v124 fun _ _ =>
 ext 1 v122 fun v127 =>
 asB v127 fun b128 =>
 catS 1 34 l_5 c_5 fun l129 c130 =>
 catS l129 c130 2 8738 fun l131 c132 =>
 c (.func 13) [(.str l131 c132)] h123 fun v133 h134 =>
 ext 0 v133 fun v135 =>
 asS v135 fun _ _ =>
 ext 1 v133 fun v138 =>
 asB v138 fun b139 =>
 joinB (fun k140 => gate true b95
 (oK (convA env h134 37 9 v_0) fun v143 h144 =>
 asS v143 fun l145 c146 =>
 k140 (strEq l92 c93 l145 c146) h144)
 (k140 false h134)) fun b142 h141 =>
 joinB (fun k147 => gate true b142
 (k147 b106 h141)
 (k147 false h141)) fun b149 h148 =>
 joinB (fun k150 => gate true b149
 (oK (convA env h148 37 9 v_0) fun v153 h154 =>
 asS v153 fun l155 c156 =>
 k150 (strEq l103 c104 l155 c156) h154)
 (k150 false h148)) fun b152 h151 =>
 joinB (fun k157 => gate true b152
 (k157 b117 h151)
 (k157 false h151)) fun b159 h158 =>
 joinB (fun k160 => gate true b159
 (oK (convA env h158 37 9 v_0) fun v163 h164 =>
 asS v163 fun l165 c166 =>
 k160 (strEq l114 c115 l165 c166) h164)
 (k160 false h158)) fun b162 h161 =>
 joinB (fun k167 => gate true b162
 (k167 (bnot b128) h161)
 (k167 false h161)) fun b169 h168 =>
 joinB (fun k170 => gate true b169
 (k170 (bnot b139) h168)
 (k170 false h168)) fun b172 h171 =>
 joinB (fun k173 => gate true b172
 (c (.func 8) [] h171 fun v176 h177 =>
 asB v176 fun b178 =>
 k173 b178 h177)
 (k173 false h171)) fun b175 h174 =>
 k (.bool b175) h174)
noncomputable def s5_2 (_c : Caller Prop FT) (_k : KV) (J : J5) (v_0 : AV) (n_1 : Int) (l_5 : Nat) (c_5 : Nat) (n_6 : Int) (h : H) : Prop :=
 fI (wrap .i64 (iadd n_6 (Int.ofNat 1))) fun n179 =>
 J.a1 v_0 n_1 l_5 c_5 n179 h
noncomputable def z5 : J5 := ⟨fun _ _ _ => False, fun _ _ _ _ _ _ => False, fun _ _ _ _ _ _ => False⟩
noncomputable def r5 (c : Caller Prop FT) (k : KV) (m : Nat) : J5 := Nat.rec z5 (fun _ J => ⟨s5_0 c k J, s5_1 c k J, s5_2 c k J⟩) m
noncomputable def f5 (J : J5) : Jump := fun L f h => match L with
  | 0 => asI .i64 (f 1) fun n_1 => J.a0 (f 0) n_1 h
  | 1 => asI .i64 (f 1) fun n_1 => asS (f 5) fun l_5 c_5 => asI .i64 (f 6) fun n_6 => J.a1 (f 0) n_1 l_5 c_5 n_6 h
  | 2 => asI .i64 (f 1) fun n_1 => asS (f 5) fun l_5 c_5 => asI .i64 (f 6) fun n_6 => J.a2 (f 0) n_1 l_5 c_5 n_6 h
  | _ => False
noncomputable def d5 : Code := Option.rec .skip (fun c => c) Go.Proofs.Tryd.f5.body
noncomputable def q5 : Plans := [(16, [0, 1, 2, 3, 4, 5, 6, 7, 8, 9, 10, 11])]
noncomputable def u5 : Cuts := [(.root, 0), ((.l (.r (.l (.r (.r (.r .root)))))), 1), ((.r (.r (.l (.l (.r (.l (.r (.r (.r .root))))))))), 2)]
/- oxbow/oxbowlaw13.PnumFloats -/
structure J6 where
  a0 : Nat → Nat → Nat → Nat → Nat → Nat → Int → H → Prop
  a1 : Nat → Nat → Nat → Nat → Nat → Nat → Nat → Nat → Nat → Nat → Bool → Bool → Bool → H → Prop
noncomputable def s6_0 (c : Caller Prop FT) (k : KV) (J : J6) (l_0 : Nat) (c_0 : Nat) (l_1 : Nat) (c_1 : Nat) (l_2 : Nat) (c_2 : Nat) (n_3 : Int) (h : H) : Prop :=
 c (.func 19) [(.str l_0 c_0)] h fun v1 h2 =>
 asB v1 fun b3 =>
 joinB (fun k4 => gate false (bnot b3)
 (c (.func 19) [(.str l_1 c_1)] h2 fun v7 h8 =>
 asB v7 fun b9 =>
 k4 (bnot b9) h8)
 (k4 true h2)) fun b6 h5 =>
 joinB (fun k10 => gate false b6
 (c (.func 19) [(.str l_2 c_2)] h5 fun v13 h14 =>
 asB v13 fun b15 =>
 k10 (bnot b15) h14)
 (k10 true h5)) fun b12 h11 =>
 joinB (fun k16 => gate false b12
 (fI (wrap .i64 (iadd (Int.ofNat l_0) (Int.ofNat l_1))) fun n19 =>
 fI (wrap .i64 (iadd n19 (Int.ofNat l_2))) fun n20 =>
 k16 (iblt (Int.ofNat 60) n20) h11)
 (k16 true h11)) fun b18 h17 =>
 cnd b18
 (c (.func 8) [] h17 fun v21 h22 =>
 asB v21 fun b23 =>
 k (.bool b23) h22)
 (oK (withElem env 35 (fun e ei => exBuildSlice 5 [(0, (.str 0 0)), (1, (.str 1 102)), (2, (.str 1 70)), (3, (.str 1 108)), (4, (.str 1 76))] h17 e ei)) fun v24 h25 =>
 c (.func 18) [(.int .i64 n_3), (.int .i64 (Int.ofNat 5))] h25 fun v26 h27 =>
 asI .i64 v26 fun n28 =>
 natI n28 fun m29 =>
 elemA 1 m29 v24 fun v30 =>
 ld1 v30 h27 fun v31 =>
 asS v31 fun l32 c33 =>
 oK (withElem env 35 (fun e ei => exBuildSlice 3 [(0, (.str 0 0)), (1, (.str 1 43)), (2, (.str 1 45))] h27 e ei)) fun v34 h35 =>
 quoI .i64 n_3 (Int.ofNat 5) fun n36 =>
 c (.func 18) [(.int .i64 n36), (.int .i64 (Int.ofNat 3))] h35 fun v37 h38 =>
 asI .i64 v37 fun n39 =>
 natI n39 fun m40 =>
 elemA 1 m40 v34 fun v41 =>
 ld1 v41 h38 fun v42 =>
 asS v42 fun l43 c44 =>
 catS l_0 c_0 1 46 fun l45 c46 =>
 catS l45 c46 l_1 c_1 fun l47 c48 =>
 catS l47 c48 l32 c33 fun l49 c50 =>
 c (.func 16) [(.str l49 c50)] h38 fun v51 h52 =>
 asB v51 fun b53 =>
 catS l_0 c_0 1 101 fun l54 c55 =>
 catS l54 c55 l43 c44 fun l56 c57 =>
 catS l56 c57 l_2 c_2 fun l58 c59 =>
 catS l58 c59 l32 c33 fun l60 c61 =>
 c (.func 16) [(.str l60 c61)] h52 fun v62 h63 =>
 asB v62 fun b64 =>
 catS l_0 c_0 1 46 fun l65 c66 =>
 catS l65 c66 l_1 c_1 fun l67 c68 =>
 catS l67 c68 1 69 fun l69 c70 =>
 catS l69 c70 l43 c44 fun l71 c72 =>
 catS l71 c72 l_2 c_2 fun l73 c74 =>
 catS l73 c74 l32 c33 fun l75 c76 =>
 c (.func 16) [(.str l75 c76)] h63 fun v77 h78 =>
 asB v77 fun b79 =>
 J.a1 l_0 c_0 l_1 c_1 l_2 c_2 l32 c33 l43 c44 b53 b64 b79 h78)
noncomputable def s6_1 (c : Caller Prop FT) (k : KV) (_J : J6) (l_0 : Nat) (c_0 : Nat) (l_1 : Nat) (c_1 : Nat) (l_2 : Nat) (c_2 : Nat) (l_9 : Nat) (c_9 : Nat) (l_10 : Nat) (c_10 : Nat) (b_11 : Bool) (b_12 : Bool) (b_13 : Bool) (h : H) : Prop :=
 catS l_0 c_0 1 46 fun l80 c81 =>
 catS l80 c81 l_1 c_1 fun l82 c83 =>
 c (.func 9) [(.str l82 c83)] h fun v84 h85 =>
 ext 0 v84 fun v86 =>
 ext 1 v84 fun v87 =>
 asB v87 fun b88 =>
 Hp.newK h85 ob25 fun p89 h90 =>
 stn 2 (.ptr p89 0) v86 h90 fun h91 =>
 catS l_0 c_0 1 101 fun l92 c93 =>
 catS l92 c93 l_10 c_10 fun l94 c95 =>
 catS l94 c95 l_2 c_2 fun l96 c97 =>
 c (.func 9) [(.str l96 c97)] h91 fun v98 h99 =>
 ext 0 v98 fun v100 =>
 ext 1 v98 fun v101 =>
 asB v101 fun b102 =>
 Hp.newK h99 ob25 fun p103 h104 =>
 stn 2 (.ptr p103 0) v100 h104 fun h105 =>
 catS 2 30768 l_0 c_0 fun l106 c107 =>
 catS l106 c107 1 46 fun l108 c109 =>
 catS l108 c109 l_1 c_1 fun l110 c111 =>
 catS l110 c111 1 112 fun l112 c113 =>
 catS l112 c113 l_10 c_10 fun l114 c115 =>
 catS l114 c115 l_2 c_2 fun l116 c117 =>
 catS l116 c117 l_9 c_9 fun l118 c119 =>
 c (.func 16) [(.str l118 c119)] h105 fun v120 h121 =>
 asB v120 fun b122 =>
 catS 2 30768 l_0 c_0 fun l123 c124 =>
 catS l123 c124 1 46 fun l125 c126 =>
 catS l125 c126 l_1 c_1 fun l127 c128 =>
 catS l127 c128 l_9 c_9 fun l129 c130 =>
 c (.func 16) [(.str l129 c130)] h121 fun v131 h132 =>
 asB v131 fun b133 =>
 joinB (fun k134 => gate false (bnot (strEq l_0 c_0 0 0))
 (k134 (bnot (strEq l_1 c_1 0 0)) h132)
 (k134 true h132)) fun b136 h135 =>
 oV (binA env .eql 4 (.bool b_11) (.bool b136)) fun v137 =>
 asB v137 fun b138 =>
 joinB (fun k139 => gate true b138
 (joinB (fun k142 => gate true (bnot (strEq l_0 c_0 0 0))
 (k142 (bnot (strEq l_2 c_2 0 0)) h135)
 (k142 false h135)) fun b144 h143 =>
 oV (binA env .eql 4 (.bool b_12) (.bool b144)) fun v145 =>
 asB v145 fun b146 =>
 k139 b146 h143)
 (k139 false h135)) fun b141 h140 =>
 joinB (fun k147 => gate true b141
 (joinB (fun k150 => gate true b136
 (k150 (bnot (strEq l_2 c_2 0 0)) h140)
 (k150 false h140)) fun b152 h151 =>
 oV (binA env .eql 4 (.bool b_13) (.bool b152)) fun v153 =>
 asB v153 fun b154 =>
 k147 b154 h151)
 (k147 false h140)) fun b149 h148 =>
 joinB (fun k155 => gate true b149
 (k155 (bnot b88) h148)
 (k155 false h148)) fun b157 h156 =>
 joinB (fun k158 => gate true b157
 (k158 (bnot b102) h156)
 (k158 false h156)) fun b160 h159 =>
 joinB (fun k161 => gate true b160
 (joinB (fun k164 => gate true b136
 (k164 (bnot (strEq l_2 c_2 0 0)) h159)
 (k164 false h159)) fun b166 h165 =>
 oV (binA env .eql 4 (.bool b122) (.bool b166)) fun v167 =>
 asB v167 fun b168 =>
 k161 b168 h165)
 (k161 false h159)) fun b163 h162 =>
 joinB (fun k169 => gate true b163
 (k169 (bnot b133) h162)
 (k169 false h162)) fun b171 h170 =>
 joinB (fun k172 => gate true b171
 (catS l_0 c_0 l_9 c_9 fun l175 c176 =>
 catS l175 c176 1 120 fun l177 c178 =>
 c (.func 16) [(.str l177 c178)] h170 fun v179 h180 =>
 asB v179 fun b181 =>
 k172 (bnot b181) h180)
 (k172 false h170)) fun b174 h173 =>
 joinB (fun k182 => gate true b174
 (c (.func 8) [] h173 fun v185 h186 =>
 asB v185 fun b187 =>
 k182 b187 h186)
 (k182 false h173)) fun b184 h183 =>
 k (.bool b184) h183
noncomputable def z6 : J6 := ⟨fun _ _ _ _ _ _ _ _ => False, fun _ _ _ _ _ _ _ _ _ _ _ _ _ _ => False⟩
noncomputable def r6 (c : Caller Prop FT) (k : KV) (m : Nat) : J6 := Nat.rec z6 (fun _ J => ⟨s6_0 c k J, s6_1 c k J⟩) m
noncomputable def f6 (J : J6) : Jump := fun L f h => match L with
  | 0 => asS (f 0) fun l_0 c_0 => asS (f 1) fun l_1 c_1 => asS (f 2) fun l_2 c_2 => asI .i64 (f 3) fun n_3 => J.a0 l_0 c_0 l_1 c_1 l_2 c_2 n_3 h
  | 1 => asS (f 0) fun l_0 c_0 => asS (f 1) fun l_1 c_1 => asS (f 2) fun l_2 c_2 => asS (f 9) fun l_9 c_9 => asS (f 10) fun l_10 c_10 => asB (f 11) fun b_11 => asB (f 12) fun b_12 => asB (f 13) fun b_13 => J.a1 l_0 c_0 l_1 c_1 l_2 c_2 l_9 c_9 l_10 c_10 b_11 b_12 b_13 h
  | _ => False
noncomputable def d6 : Code := Option.rec .skip (fun c => c) Go.Proofs.Tryd.f6.body
noncomputable def q6 : Plans := []
noncomputable def u6 : Cuts := [(.root, 0), ((.r (.r (.r (.r (.r (.r (.r .root))))))), 1)]
/- oxbow/oxbowlaw13.PnumChars -/
structure J7 where
  a0 : AV → Int → H → Prop
  a1 : AV → Int → Nat → Nat → Int → H → Prop
  a2 : AV → Nat → Nat → AV → Bool → Bool → Bool → Int → Int → H → Prop
  a3 : Nat → Nat → AV → Bool → Bool → Bool → Int → H → Prop
  a4 : AV → Nat → Nat → AV → Bool → Bool → Bool → H → Prop
noncomputable def s7_0 (c : Caller Prop FT) (k : KV) (J : J7) (v_0 : AV) (n_1 : Int) (h : H) : Prop :=
 lenV v_0 fun m1 =>
 joinB (fun k2 => gate false (ibeq (Int.ofNat m1) (Int.ofNat 0))
 (lenV v_0 fun m5 =>
 k2 (iblt (Int.ofNat 9) (Int.ofNat m5)) h)
 (k2 true h)) fun b4 h3 =>
 cnd b4
 (c (.func 8) [] h3 fun v6 h7 =>
 asB v6 fun b8 =>
 k (.bool b8) h7)
 (J.a1 v_0 n_1 0 0 (Int.ofNat 0) h3)
noncomputable def s7_1 (c : Caller Prop FT) (_k : KV) (J : J7) (v_0 : AV) (n_1 : Int) (l_5 : Nat) (c_5 : Nat) (n_6 : Int) (h : H) : Prop :=
 lenV v_0 fun m9 =>
 cnd (iblt n_6 (Int.ofNat m9))
 (catS l_5 c_5 1 92 fun l10 c11 =>
 natI n_6 fun m12 =>
 elemA 1 m12 v_0 fun v13 =>
 ld1 v13 h fun v14 =>
 asI .u8 v14 fun n15 =>
 quoI .u8 n15 (Int.ofNat 64) fun n16 =>
 fI (wrap .u8 (iadd (Int.ofNat 48) n16)) fun n17 =>
 natI n_6 fun m18 =>
 elemA 1 m18 v_0 fun v19 =>
 ld1 v19 h fun v20 =>
 asI .u8 v20 fun n21 =>
 quoI .u8 n21 (Int.ofNat 8) fun n22 =>
 remI n22 (Int.ofNat 8) fun n23 =>
 fI (wrap .u8 (iadd (Int.ofNat 48) n23)) fun n24 =>
 natI n_6 fun m25 =>
 elemA 1 m25 v_0 fun v26 =>
 ld1 v26 h fun v27 =>
 asI .u8 v27 fun n28 =>
 remI n28 (Int.ofNat 8) fun n29 =>
 fI (wrap .u8 (iadd (Int.ofNat 48) n29)) fun n30 =>
 oK (withElem env 37 (fun e ei => exBuildSlice 3 [(0, (.int .u8 n17)), (1, (.int .u8 n24)), (2, (.int .u8 n30))] h e ei)) fun v31 h32 =>
 oK (convA env h32 37 9 v31) fun v33 h34 =>
 asS v33 fun l35 c36 =>
 catS l10 c11 l35 c36 fun l37 c38 =>
 fI (wrap .i64 (iadd n_6 (Int.ofNat 1))) fun n39 =>
 J.a1 v_0 n_1 l37 c38 n39 h34)
 (oK (withElem env 35 (fun e ei => exBuildSlice 4 [(0, (.str 0 0)), (1, (.str 1 76)), (2, (.str 1 117)), (3, (.str 1 85))] h e ei)) fun v40 h41 =>
 c (.func 18) [(.int .i64 n_1), (.int .i64 (Int.ofNat 4))] h41 fun v42 h43 =>
 asI .i64 v42 fun n44 =>
 natI n44 fun m45 =>
 elemA 1 m45 v40 fun v46 =>
 ld1 v46 h43 fun v47 =>
 asS v47 fun l48 c49 =>
 catS l48 c49 1 39 fun l50 c51 =>
 catS l50 c51 l_5 c_5 fun l52 c53 =>
 catS l52 c53 1 39 fun l54 c55 =>
 c (.func 11) [(.str l54 c55)] h43 fun v56 h57 =>
 ext 0 v56 fun v58 =>
 ext 1 v56 fun v59 =>
 asB v59 fun b60 =>
 Hp.newK h57 ob25 fun p61 h62 =>
 stn 2 (.ptr p61 0) v58 h62 fun h63 =>
 catS 3 2570357 l_5 c_5 fun l64 c65 =>
 catS l64 c65 1 39 fun l66 c67 =>
 c (.func 11) [(.str l66 c67)] h63 fun v68 h69 =>
 ext 0 v68 fun v70 =>
 ext 1 v68 fun v71 =>
 asB v71 fun b72 =>
 Hp.newK h69 ob25 fun p73 h74 =>
 stn 2 (.ptr p73 0) v70 h74 fun h75 =>
 catS 1 34 l_5 c_5 fun l76 c77 =>
 catS l76 c77 1 34 fun l78 c79 =>
 c (.func 11) [(.str l78 c79)] h75 fun v80 h81 =>
 ext 0 v80 fun v82 =>
 ext 1 v80 fun v83 =>
 asB v83 fun b84 =>
 Hp.newK h81 ob25 fun p85 h86 =>
 stn 2 (.ptr p85 0) v82 h86 fun h87 =>
 J.a4 v_0 l48 c49 (.ptr p61 0) b60 b72 b84 h87)
noncomputable def s7_2 (_c : Caller Prop FT) (_k : KV) (J : J7) (v_0 : AV) (l_7 : Nat) (c_7 : Nat) (v_8 : AV) (b_9 : Bool) (b_11 : Bool) (b_13 : Bool) (n_15 : Int) (n_16 : Int) (h : H) : Prop :=
 lenV v_0 fun m88 =>
 cnd (iblt n_16 (Int.ofNat m88))
 (shlI .u32 n_15 (Int.ofNat 8) fun n89 =>
 natI n_16 fun m90 =>
 elemA 1 m90 v_0 fun v91 =>
 ld1 v91 h fun v92 =>
 asI .u8 v92 fun n93 =>
 fI (wrap .u32 n93) fun n94 =>
 bitI Nat.lor .u32 n89 n94 fun n95 =>
 fI (wrap .i64 (iadd n_16 (Int.ofNat 1))) fun n96 =>
 J.a2 v_0 l_7 c_7 v_8 b_9 b_11 b_13 n95 n96 h)
 (fI (wrap .i32 n_15) fun n97 =>
 fI (wrap .i64 n97) fun n98 =>
 J.a3 l_7 c_7 v_8 b_9 b_11 b_13 n98 h)
noncomputable def s7_3 (c : Caller Prop FT) (k : KV) (_J : J7) (l_7 : Nat) (c_7 : Nat) (v_8 : AV) (b_9 : Bool) (b_11 : Bool) (b_13 : Bool) (n_14 : Int) (h : H) : Prop :=
 joinB (fun k99 => gate true b_9
 (ldn 2 v_8 h fun v102 =>
 fI (wrap .u64 n_14) fun n103 =>
 joinB (fun k104 => gate false (strEq l_7 c_7 1 117)
 (k104 (strEq l_7 c_7 1 85) h)
 (k104 true h)) fun b106 h105 =>
 oK (exBuild env (env.ty 25) [(0, (.int .u64 n103)), (1, (.bool b106))] h105) fun v107 h108 =>
 oV (binA env .eql 25 v102 v107) fun v109 =>
 asB v109 fun b110 =>
 k99 b110 h108)
 (k99 false h)) fun b101 h100 =>
 joinB (fun k111 => gate true b101
 (k111 (bnot b_11) h100)
 (k111 false h100)) fun b113 h112 =>
 joinB (fun k114 => gate true b113
 (k114 (bnot b_13) h112)
 (k114 false h112)) fun b116 h115 =>
 joinB (fun k117 => gate true b116
 (c (.func 8) [] h115 fun v120 h121 =>
 asB v120 fun b122 =>
 k117 b122 h121)
 (k117 false h115)) fun b119 h118 =>
 k (.bool b119) h118
noncomputable def s7_4 (c : Caller Prop FT) (k : KV) (J : J7) (v_0 : AV) (l_7 : Nat) (c_7 : Nat) (v_8 : AV) (b_9 : Bool) (b_11 : Bool) (b_13 : Bool) (h : H) : Prop :=
 lenV v_0 fun m123 =>
 cnd (iblt (Int.ofNat 8) (Int.ofNat m123))
 (joinB (fun k124 => gate true (bnot b_9)
 (c (.func 8) [] h fun v127 h128 =>
 asB v127 fun b129 =>
 k124 b129 h128)
 (k124 false h)) fun b126 h125 =>
 k (.bool b126) h125)
 (elemA 1 0 v_0 fun v130 =>
 ld1 v130 h fun v131 =>
 asI .u8 v131 fun n132 =>
 fI (wrap .i8 n132) fun n133 =>
 fI (wrap .i64 n133) fun n134 =>
 lenV v_0 fun m135 =>
 cnd (iblt (Int.ofNat 1) (Int.ofNat m135))
 (J.a2 v_0 l_7 c_7 v_8 b_9 b_11 b_13 (Int.ofNat 0) (Int.ofNat 0) h)
 (J.a3 l_7 c_7 v_8 b_9 b_11 b_13 n134 h))
noncomputable def z7 : J7 := ⟨fun _ _ _ => False, fun _ _ _ _ _ _ => False, fun _ _ _ _ _ _ _ _ _ _ => False, fun _ _ _ _ _ _ _ _ => False, fun _ _ _ _ _ _ _ _ => False⟩
noncomputable def r7 (c : Caller Prop FT) (k : KV) (m : Nat) : J7 := Nat.rec z7 (fun _ J => ⟨s7_0 c k J, s7_1 c k J, s7_2 c k J, s7_3 c k J, s7_4 c k J⟩) m
noncomputable def f7 (J : J7) : Jump := fun L f h => match L with
  | 0 => asI .i64 (f 1) fun n_1 => J.a0 (f 0) n_1 h
  | 1 => asI .i64 (f 1) fun n_1 => asS (f 5) fun l_5 c_5 => asI .i64 (f 6) fun n_6 => J.a1 (f 0) n_1 l_5 c_5 n_6 h
  | 2 => asS (f 7) fun l_7 c_7 => asB (f 9) fun b_9 => asB (f 11) fun b_11 => asB (f 13) fun b_13 => asI .u32 (f 15) fun n_15 => asI .i64 (f 16) fun n_16 => J.a2 (f 0) l_7 c_7 (f 8) b_9 b_11 b_13 n_15 n_16 h
  | 3 => asS (f 7) fun l_7 c_7 => asB (f 9) fun b_9 => asB (f 11) fun b_11 => asB (f 13) fun b_13 => asI .i64 (f 14) fun n_14 => J.a3 l_7 c_7 (f 8) b_9 b_11 b_13 n_14 h
  | 4 => asS (f 7) fun l_7 c_7 => asB (f 9) fun b_9 => asB (f 11) fun b_11 => asB (f 13) fun b_13 => J.a4 (f 0) l_7 c_7 (f 8) b_9 b_11 b_13 h
  | _ => False
noncomputable def d7 : Code := Option.rec .skip (fun c => c) Go.Proofs.Tryd.f7.body
noncomputable def q7 : Plans := [(7, [0, 1, 2, 3, 4, 5, 6, 7, 8, 9, 10, 11, 12, 13, 14, 15, 16, 17, 18, 19, 20, 21, 22, 23, 24])]
noncomputable def u7 : Cuts := [(.root, 0), ((.l (.r (.l (.r (.r (.r .root)))))), 1), ((.l (.r (.l (.r (.l (.r (.l (.r (.r (.r (.r (.r (.r (.r (.r (.r (.r .root))))))))))))))))), 2), ((.r (.r (.r (.r (.r (.r (.r (.r (.r (.r (.r .root))))))))))), 3), ((.r (.r (.r (.r (.r (.r (.r (.r .root)))))))), 4)]
/- oxbow/oxbowlaw13.awake -/
structure J8 where
  a0 : H → Prop
noncomputable def s8_0 (c : Caller Prop FT) (k : KV) (_J : J8) (h : H) : Prop :=
 c (.func 9) [(.str 5 503688820784)] h fun v1 h2 =>
 ext 0 v1 fun v3 =>
 ext 1 v1 fun v4 =>
 asB v4 fun b5 =>
 Hp.newK h2 ob25 fun p6 h7 =>
 stn 2 (.ptr p6 0) v3 h7 fun h8 =>
 c (.func 9) [(.str 2 14384)] h8 fun v9 h10 =>
 ext 0 v9 fun v11 =>
 ext 1 v9 fun v12 =>
 asB v12 fun b13 =>
 Hp.newK h10 ob25 fun p14 h15 =>
 stn 2 (.ptr p14 0) v11 h15 fun h16 =>
 c (.func 11) [(.str 4 660758823)] h16 fun v17 h18 =>
 ext 0 v17 fun v19 =>
 ext 1 v17 fun v20 =>
 asB v20 fun b21 =>
 Hp.newK h18 ob25 fun p22 h23 =>
 stn 2 (.ptr p22 0) v19 h23 fun h24 =>
 c (.func 13) [(.str 5 147880436002)] h24 fun v25 h26 =>
 ext 0 v25 fun v27 =>
 asS v27 fun l28 c29 =>
 ext 1 v25 fun v30 =>
 asB v30 fun b31 =>
 ldn 2 (.ptr p6 0) h26 fun v32 =>
 oK (exBuild env (env.ty 25) [(0, (.int .u64 (Int.ofNat 31))), (1, (.bool true))] h26) fun v33 h34 =>
 oV (binA env .eql 25 v32 v33) fun v35 =>
 asB v35 fun b36 =>
 joinB (fun k37 => gate true b36
 (k37 b5 h34)
 (k37 false h34)) fun b39 h38 =>
 joinB (fun k40 => gate true b39
 (k40 (bnot b13) h38)
 (k40 false h38)) fun b42 h41 =>
 joinB (fun k43 => gate true b42
 (fAddr 0 (.ptr p22 0) fun v46 =>
 ld1 v46 h41 fun v47 =>
 asI .u64 v47 fun n48 =>
 k43 (ibeq n48 (Int.ofNat 24930)) h41)
 (k43 false h41)) fun b45 h44 =>
 joinB (fun k49 => gate true b45
 (k49 b21 h44)
 (k49 false h44)) fun b51 h50 =>
 joinB (fun k52 => gate true b51
 (k52 (strEq l28 c29 2 2657) h50)
 (k52 false h50)) fun b54 h53 =>
 joinB (fun k55 => gate true b54
 (k55 b31 h53)
 (k55 false h53)) fun b57 h56 =>
 joinB (fun k58 => gate true b57
 (c (.func 16) [(.str 2 11825)] h56 fun v61 h62 =>
 asB v61 fun b63 =>
 k58 b63 h62)
 (k58 false h56)) fun b60 h59 =>
 joinB (fun k64 => gate true b60
 (c (.func 16) [(.str 6 112369957418286)] h59 fun v67 h68 =>
 asB v67 fun b69 =>
 k64 b69 h68)
 (k64 false h59)) fun b66 h65 =>
 joinB (fun k70 => gate true b66
 (c (.func 16) [(.str 1 49)] h65 fun v73 h74 =>
 asB v73 fun b75 =>
 k70 (bnot b75) h74)
 (k70 false h65)) fun b72 h71 =>
 k (.bool b72) h71
noncomputable def z8 : J8 := ⟨fun _ => False⟩
noncomputable def r8 (c : Caller Prop FT) (k : KV) (m : Nat) : J8 := Nat.rec z8 (fun _ J => ⟨s8_0 c k J⟩) m
noncomputable def f8 (J : J8) : Jump := fun L f h => match L with
  | 0 => J.a0 h
  | _ => False
noncomputable def d8 : Code := Option.rec .skip (fun c => c) Go.Proofs.Tryd.f8.body
noncomputable def q8 : Plans := []
noncomputable def u8 : Cuts := [(.root, 0)]
/- oxbow/pnum.Number -/
structure J9 where
  a0 : Nat → Nat → H → Prop
  a1 : AV → Nat → Nat → Bool → Bool → Int → Nat → Nat → H → Prop
noncomputable def s9_0 (c : Caller Prop FT) (_k : KV) (J : J9) (l_0 : Nat) (c_0 : Nat) (h : H) : Prop :=
 Hp.newK h ob25 fun p1 h2 =>
 c (.func 20) [(.str l_0 c_0), (.str 4 1282168181)] h2 fun v3 h4 =>
 asS v3 fun l5 c6 =>
 cutS l_0 c_0 l5 l_0 fun l7 c8 =>
 c (.func 21) [(.str l7 c8)] h4 fun v9 h10 =>
 ext 0 v9 fun v11 =>
 asB v11 fun b12 =>
 ext 1 v9 fun v13 =>
 asB v13 fun b14 =>
 c (.func 22) [(.str l5 c6)] h10 fun v15 h16 =>
 asB v15 fun b17 =>
 cnd b17
 (cutS l5 c6 2 l5 fun l18 c19 =>
 J.a1 (.ptr p1 0) l18 c19 b12 b14 (Int.ofNat 16) 22 26291342665239622251265189840170011249128153612955952 h16)
 (c (.func 23) [(.str l5 c6), (.str 1 48)] h16 fun v20 h21 =>
 asB v20 fun b22 =>
 cnd b22
 (J.a1 (.ptr p1 0) l5 c6 b12 b14 (Int.ofNat 8) 8 3978425819141910832 h21)
 (J.a1 (.ptr p1 0) l5 c6 b12 b14 (Int.ofNat 10) 10 270211885617516653982000 h21))
noncomputable def s9_1 (c : Caller Prop FT) (k : KV) (_J : J9) (v_2 : AV) (l_4 : Nat) (c_4 : Nat) (b_5 : Bool) (b_6 : Bool) (n_7 : Int) (l_8 : Nat) (c_8 : Nat) (h : H) : Prop :=
 joinB (fun k23 => gate false (bnot b_6)
 (k23 (strEq l_4 c_4 0 0) h)
 (k23 true h)) fun b25 h24 =>
 joinB (fun k26 => gate false b25
 (c (.func 24) [(.str l_4 c_4), (.str l_8 c_8)] h24 fun v29 h30 =>
 asI .i64 v29 fun n31 =>
 k26 (bnot (ibeq n31 (Int.ofNat l_4))) h30)
 (k26 true h24)) fun b28 h27 =>
 cnd b28
 (oK (exBuild env (env.ty 25) [] h27) fun v32 h33 =>
 stn 2 v_2 v32 h33 fun h34 =>
 ldn 2 v_2 h34 fun v35 =>
 k (.tuple [v35, (.bool false)]) h34)
 (c (.func 25) [(.str l_4 c_4), (.int .i64 n_7), (.int .i64 (Int.ofNat 64))] h27 fun v36 h37 =>
 ext 0 v36 fun v38 =>
 asI .u64 v38 fun n39 =>
 ext 1 v36 fun v40 =>
 oV (binA env .neq 50 v40 .nili) fun v41 =>
 asB v41 fun b42 =>
 cnd b42
 (oK (exBuild env (env.ty 25) [] h37) fun v43 h44 =>
 stn 2 v_2 v43 h44 fun h45 =>
 ldn 2 v_2 h45 fun v46 =>
 k (.tuple [v46, (.bool false)]) h45)
 (joinB (fun k47 => gate false b_5
 (k47 (iblt (Int.ofNat 9223372036854775807) n39) h37)
 (k47 true h37)) fun b49 h48 =>
 oK (exBuild env (env.ty 25) [(0, (.int .u64 n39)), (1, (.bool b49))] h48) fun v50 h51 =>
 stn 2 v_2 v50 h51 fun h52 =>
 ldn 2 v_2 h52 fun v53 =>
 k (.tuple [v53, (.bool true)]) h52))
noncomputable def z9 : J9 := ⟨fun _ _ _ => False, fun _ _ _ _ _ _ _ _ _ => False⟩
noncomputable def r9 (c : Caller Prop FT) (k : KV) (m : Nat) : J9 := Nat.rec z9 (fun _ J => ⟨s9_0 c k J, s9_1 c k J⟩) m
noncomputable def f9 (J : J9) : Jump := fun L f h => match L with
  | 0 => asS (f 0) fun l_0 c_0 => J.a0 l_0 c_0 h
  | 1 => asS (f 4) fun l_4 c_4 => asB (f 5) fun b_5 => asB (f 6) fun b_6 => asI .i64 (f 7) fun n_7 => asS (f 8) fun l_8 c_8 => J.a1 (f 2) l_4 c_4 b_5 b_6 n_7 l_8 c_8 h
  | _ => False
noncomputable def d9 : Code := Option.rec .skip (fun c => c) Go.Proofs.Tryd.f9.body
noncomputable def q9 : Plans := [(5, [0, 1, 2, 3, 4])]
noncomputable def u9 : Cuts := [(.root, 0), ((.r (.r (.r (.r (.r .root))))), 1)]
/- oxbow/oxbowref9.Number -/
structure J10 where
  a0 : Nat → Nat → H → Prop
  a1 : Nat → Nat → AV → Int → Int → Int → Int → Int → H → Prop
  a2 : Nat → Nat → AV → Int → Int → H → Prop
noncomputable def s10_0 (_c : Caller Prop FT) (_k : KV) (J : J10) (l_0 : Nat) (c_0 : Nat) (h : H) : Prop :=
 Hp.newK h ob28 fun p1 h2 =>
 joinB (fun k3 => gate true (iblt (Int.ofNat 0) (Int.ofNat l_0))
 (idxS l_0 c_0 0 fun m6 =>
 k3 (ibeq (Int.ofNat m6) (Int.ofNat 48)) h2)
 (k3 false h2)) fun b5 h4 =>
 cnd b5
 (joinB (fun k7 => gate true (iblt (Int.ofNat 1) (Int.ofNat l_0))
 (idxS l_0 c_0 1 fun m10 =>
 joinB (fun k11 => gate false (ibeq (Int.ofNat m10) (Int.ofNat 120))
 (idxS l_0 c_0 1 fun m14 =>
 k11 (ibeq (Int.ofNat m14) (Int.ofNat 88)) h4)
 (k11 true h4)) fun b13 h12 =>
 k7 b13 h12)
 (k7 false h4)) fun b9 h8 =>
 cnd b9
 (J.a2 l_0 c_0 (.ptr p1 0) (Int.ofNat 16) (Int.ofNat 2) h8)
 (J.a2 l_0 c_0 (.ptr p1 0) (Int.ofNat 8) (Int.ofNat 0) h8))
 (J.a2 l_0 c_0 (.ptr p1 0) (Int.ofNat 10) (Int.ofNat 0) h4)
noncomputable def s10_1 (c : Caller Prop FT) (k : KV) (J : J10) (l_0 : Nat) (c_0 : Nat) (v_2 : AV) (n_4 : Int) (n_5 : Int) (n_6 : Int) (n_7 : Int) (n_8 : Int) (h : H) : Prop :=
 fI (wrap .i64 (iadd n_5 n_6)) fun n15 =>
 cnd (iblt n_8 n15)
 (natI n_8 fun m16 =>
 idxS l_0 c_0 m16 fun m17 =>
 c (.func 27) [(.int .u8 (Int.ofNat m17))] h fun v18 h19 =>
 asI .i64 v18 fun n20 =>
 fI (wrap .u64 n20) fun n21 =>
 fI (wrap .u64 (isub (Int.ofNat 18446744073709551615) n21)) fun n22 =>
 fI (wrap .u64 n_4) fun n23 =>
 quoI .u64 n22 n23 fun n24 =>
 cnd (iblt n24 n_7)
 (oK (exBuild env (env.ty 28) [] h19) fun v25 h26 =>
 stn 2 v_2 v25 h26 fun h27 =>
 ldn 2 v_2 h27 fun v28 =>
 k (.tuple [v28, (.bool false)]) h27)
 (fI (wrap .u64 n_4) fun n29 =>
 fI (wrap .u64 (n_7 * n29)) fun n30 =>
 fI (wrap .u64 (iadd n30 n21)) fun n31 =>
 fI (wrap .i64 (iadd n_8 (Int.ofNat 1))) fun n32 =>
 J.a1 l_0 c_0 v_2 n_4 n_5 n_6 n31 n32 h19))
 (fI (wrap .i64 (iadd n_5 n_6)) fun n33 =>
 natI n33 fun m34 =>
 cutS l_0 c_0 m34 l_0 fun l35 c36 =>
 c (.func 28) [(.str l35 c36)] h fun v37 h38 =>
 ext 0 v37 fun v39 =>
 asB v39 fun b40 =>
 ext 1 v37 fun v41 =>
 asB v41 fun b42 =>
 cnd (bnot b42)
 (oK (exBuild env (env.ty 28) [] h38) fun v43 h44 =>
 stn 2 v_2 v43 h44 fun h45 =>
 ldn 2 v_2 h45 fun v46 =>
 k (.tuple [v46, (.bool false)]) h45)
 (joinB (fun k47 => gate false b40
 (k47 (iblt (Int.ofNat 9223372036854775807) n_7) h38)
 (k47 true h38)) fun b49 h48 =>
 oK (exBuild env (env.ty 28) [(0, (.int .u64 n_7)), (1, (.bool b49))] h48) fun v50 h51 =>
 stn 2 v_2 v50 h51 fun h52 =>
 ldn 2 v_2 h52 fun v53 =>
 k (.tuple [v53, (.bool true)]) h52))
noncomputable def s10_2 (c : Caller Prop FT) (k : KV) (J : J10) (l_0 : Nat) (c_0 : Nat) (v_2 : AV) (n_4 : Int) (n_5 : Int) (h : H) : Prop :=
 c (.func 26) [(.str l_0 c_0), (.int .i64 n_5), (.int .i64 n_4)] h fun v54 h55 =>
 asI .i64 v54 fun n56 =>
 cnd (ibeq n56 (Int.ofNat 0))
 (oK (exBuild env (env.ty 28) [] h55) fun v57 h58 =>
 stn 2 v_2 v57 h58 fun h59 =>
 ldn 2 v_2 h59 fun v60 =>
 k (.tuple [v60, (.bool false)]) h59)
 (J.a1 l_0 c_0 v_2 n_4 n_5 n56 (Int.ofNat 0) n_5 h55)
noncomputable def z10 : J10 := ⟨fun _ _ _ => False, fun _ _ _ _ _ _ _ _ _ => False, fun _ _ _ _ _ _ => False⟩
noncomputable def r10 (c : Caller Prop FT) (k : KV) (m : Nat) : J10 := Nat.rec z10 (fun _ J => ⟨s10_0 c k J, s10_1 c k J, s10_2 c k J⟩) m
noncomputable def f10 (J : J10) : Jump := fun L f h => match L with
  | 0 => asS (f 0) fun l_0 c_0 => J.a0 l_0 c_0 h
  | 1 => asS (f 0) fun l_0 c_0 => asI .i64 (f 4) fun n_4 => asI .i64 (f 5) fun n_5 => asI .i64 (f 6) fun n_6 => asI .u64 (f 7) fun n_7 => asI .i64 (f 8) fun n_8 => J.a1 l_0 c_0 (f 2) n_4 n_5 n_6 n_7 n_8 h
  | 2 => asS (f 0) fun l_0 c_0 => asI .i64 (f 4) fun n_4 => asI .i64 (f 5) fun n_5 => J.a2 l_0 c_0 (f 2) n_4 n_5 h
  | _ => False
noncomputable def d10 : Code := Option.rec .skip (fun c => c) Go.Proofs.Tryd.f10.body
noncomputable def q10 : Plans := []
noncomputable def u10 : Cuts := [(.root, 0), ((.l (.r (.l (.r (.r (.r (.r (.r (.r .root))))))))), 1), ((.r (.r (.r .root))), 2)]
/- oxbow/pnum.Char -/
structure J11 where
  a0 : Nat → Nat → H → Prop
  a1 : AV → Nat → Nat → Nat → Nat → Int → Int → Int → H → Prop
  a2 : AV → Nat → Nat → Int → H → Prop
noncomputable def s11_0 (c : Caller Prop FT) (k : KV) (J : J11) (l_0 : Nat) (c_0 : Nat) (h : H) : Prop :=
 Hp.newK h ob25 fun p1 h2 =>
 c (.func 13) [(.str l_0 c_0)] h2 fun v3 h4 =>
 ext 0 v3 fun v5 =>
 asS v5 fun l6 c7 =>
 ext 1 v3 fun v8 =>
 asB v8 fun b9 =>
 c (.func 29) [(.str l_0 c_0)] h4 fun v10 h11 =>
 ext 0 v10 fun v12 =>
 asS v12 fun l13 c14 =>
 ext 1 v10 fun v15 =>
 asB v15 fun _ =>
 joinB (fun k17 => gate false (bnot b9)
 (k17 (strEq l13 c14 2 14453) h11)
 (k17 true h11)) fun b19 h18 =>
 joinB (fun k20 => gate false b19
 (idxS l_0 c_0 l13 fun m23 =>
 k20 (bnot (ibeq (Int.ofNat m23) (Int.ofNat 39))) h18)
 (k20 true h18)) fun b22 h21 =>
 joinB (fun k24 => gate false b22
 (k24 (strEq l6 c7 0 0) h21)
 (k24 true h21)) fun b26 h25 =>
 joinB (fun k27 => gate false b26
 (k27 (iblt (Int.ofNat 8) (Int.ofNat l6)) h25)
 (k27 true h25)) fun b29 h28 =>
 cnd b29
 (oK (exBuild env (env.ty 25) [] h28) fun v30 h31 =>
 stn 2 (.ptr p1 0) v30 h31 fun h32 =>
 ldn 2 (.ptr p1 0) h32 fun v33 =>
 k (.tuple [v33, (.bool false)]) h32)
 (idxS l6 c7 0 fun m34 =>
 fI (wrap .i8 (Int.ofNat m34)) fun n35 =>
 fI (wrap .i64 n35) fun n36 =>
 cnd (iblt (Int.ofNat 1) (Int.ofNat l6))
 (J.a1 (.ptr p1 0) l6 c7 l13 c14 (Int.ofNat 0) (Int.ofNat l6) (Int.ofNat 0) h28)
 (J.a2 (.ptr p1 0) l13 c14 n36 h28))
noncomputable def s11_1 (_c : Caller Prop FT) (_k : KV) (J : J11) (v_2 : AV) (l_4 : Nat) (c_4 : Nat) (l_6 : Nat) (c_6 : Nat) (n_9 : Int) (n_52 : Int) (n_53 : Int) (h : H) : Prop :=
 cnd (iblt n_53 n_52)
 (shlI .u32 n_9 (Int.ofNat 8) fun n37 =>
 natI n_53 fun m38 =>
 idxS l_4 c_4 m38 fun m39 =>
 fI (wrap .u32 (Int.ofNat m39)) fun n40 =>
 bitI Nat.lor .u32 n37 n40 fun n41 =>
 fI (wrap .i64 (iadd n_53 (Int.ofNat 1))) fun n42 =>
 J.a1 v_2 l_4 c_4 l_6 c_6 n41 n_52 n42 h)
 (fI (wrap .i32 n_9) fun n43 =>
 fI (wrap .i64 n43) fun n44 =>
 J.a2 v_2 l_6 c_6 n44 h)
noncomputable def s11_2 (_c : Caller Prop FT) (k : KV) (_J : J11) (v_2 : AV) (l_6 : Nat) (c_6 : Nat) (n_8 : Int) (h : H) : Prop :=
 fI (wrap .u64 n_8) fun n45 =>
 joinB (fun k46 => gate false (strEq l_6 c_6 1 117)
 (k46 (strEq l_6 c_6 1 85) h)
 (k46 true h)) fun b48 h47 =>
 oK (exBuild env (env.ty 25) [(0, (.int .u64 n45)), (1, (.bool b48))] h47) fun v49 h50 =>
 stn 2 v_2 v49 h50 fun h51 =>
 ldn 2 v_2 h51 fun v52 =>
 k (.tuple [v52, (.bool true)]) h51
noncomputable def z11 : J11 := ⟨fun _ _ _ => False, fun _ _ _ _ _ _ _ _ _ => False, fun _ _ _ _ _ => False⟩
noncomputable def r11 (c : Caller Prop FT) (k : KV) (m : Nat) : J11 := Nat.rec z11 (fun _ J => ⟨s11_0 c k J, s11_1 c k J, s11_2 c k J⟩) m
noncomputable def f11 (J : J11) : Jump := fun L f h => match L with
  | 0 => asS (f 0) fun l_0 c_0 => J.a0 l_0 c_0 h
  | 1 => asS (f 4) fun l_4 c_4 => asS (f 6) fun l_6 c_6 => asI .u32 (f 9) fun n_9 => asI .i64 (f 52) fun n_52 => asI .i64 (f 53) fun n_53 => J.a1 (f 2) l_4 c_4 l_6 c_6 n_9 n_52 n_53 h
  | 2 => asS (f 6) fun l_6 c_6 => asI .i64 (f 8) fun n_8 => J.a2 (f 2) l_6 c_6 n_8 h
  | _ => False
noncomputable def d11 : Code := Option.rec .skip (fun c => c) Go.Proofs.Tryd.f11.body
noncomputable def q11 : Plans := []
noncomputable def u11 : Cuts := [(.root, 0), ((.l (.r (.l (.r (.l (.r (.l (.r (.r (.r (.r (.r .root)))))))))))), 1), ((.r (.r (.r (.r (.r (.r .root)))))), 2)]
/- oxbow/oxbowref9.Char -/
structure J12 where
  a0 : Nat → Nat → H → Prop
  a1 : AV → Nat → Nat → Nat → Nat → Int → Int → H → Prop
  a2 : AV → Nat → Nat → Int → H → Prop
noncomputable def s12_0 (c : Caller Prop FT) (k : KV) (J : J12) (l_0 : Nat) (c_0 : Nat) (h : H) : Prop :=
 Hp.newK h ob28 fun p1 h2 =>
 c (.func 30) [(.str l_0 c_0)] h2 fun v3 h4 =>
 ext 0 v3 fun v5 =>
 asS v5 fun l6 c7 =>
 ext 1 v3 fun v8 =>
 asI .u8 v8 fun n9 =>
 ext 2 v3 fun v10 =>
 asB v10 fun b11 =>
 c (.func 14) [(.str l_0 c_0)] h4 fun v12 h13 =>
 ext 0 v12 fun v14 =>
 asS v14 fun l15 c16 =>
 ext 1 v12 fun v17 =>
 asB v17 fun b18 =>
 joinB (fun k19 => gate false (bnot b11)
 (k19 (bnot b18) h13)
 (k19 true h13)) fun b21 h20 =>
 joinB (fun k22 => gate false b21
 (k22 (bnot (ibeq n9 (Int.ofNat 39))) h20)
 (k22 true h20)) fun b24 h23 =>
 joinB (fun k25 => gate false b24
 (k25 (strEq l6 c7 2 14453) h23)
 (k25 true h23)) fun b27 h26 =>
 joinB (fun k28 => gate false b27
 (k28 (iblt (Int.ofNat l15) (Int.ofNat 1)) h26)
 (k28 true h26)) fun b30 h29 =>
 joinB (fun k31 => gate false b30
 (k31 (iblt (Int.ofNat 8) (Int.ofNat l15)) h29)
 (k31 true h29)) fun b33 h32 =>
 cnd b33
 (oK (exBuild env (env.ty 28) [] h32) fun v34 h35 =>
 stn 2 (.ptr p1 0) v34 h35 fun h36 =>
 ldn 2 (.ptr p1 0) h36 fun v37 =>
 k (.tuple [v37, (.bool false)]) h36)
 (cnd (ibeq (Int.ofNat l15) (Int.ofNat 1))
 (idxS l15 c16 0 fun m38 =>
 fI (wrap .i64 (Int.ofNat m38)) fun n39 =>
 cnd (iblt (Int.ofNat 127) n39)
 (fI (wrap .i64 (isub n39 (Int.ofNat 256))) fun n40 =>
 J.a2 (.ptr p1 0) l6 c7 n40 h32)
 (J.a2 (.ptr p1 0) l6 c7 n39 h32))
 (J.a1 (.ptr p1 0) l6 c7 l15 c16 (Int.ofNat 0) (Int.ofNat 0) h32))
noncomputable def s12_1 (_c : Caller Prop FT) (_k : KV) (J : J12) (v_2 : AV) (l_4 : Nat) (c_4 : Nat) (l_7 : Nat) (c_7 : Nat) (n_9 : Int) (n_10 : Int) (h : H) : Prop :=
 cnd (iblt n_10 (Int.ofNat l_7))
 (fI (wrap .i64 (n_9 * (Int.ofNat 256))) fun n41 =>
 natI n_10 fun m42 =>
 idxS l_7 c_7 m42 fun m43 =>
 fI (wrap .i64 (Int.ofNat m43)) fun n44 =>
 fI (wrap .i64 (iadd n41 n44)) fun n45 =>
 remI n45 (Int.ofNat 4294967296) fun n46 =>
 fI (wrap .i64 (iadd n_10 (Int.ofNat 1))) fun n47 =>
 J.a1 v_2 l_4 c_4 l_7 c_7 n46 n47 h)
 (cnd (ible (Int.ofNat 2147483648) n_9)
 (fI (wrap .i64 (isub n_9 (Int.ofNat 4294967296))) fun n48 =>
 J.a2 v_2 l_4 c_4 n48 h)
 (J.a2 v_2 l_4 c_4 n_9 h))
noncomputable def s12_2 (_c : Caller Prop FT) (k : KV) (_J : J12) (v_2 : AV) (l_4 : Nat) (c_4 : Nat) (n_9 : Int) (h : H) : Prop :=
 fI (wrap .u64 n_9) fun n49 =>
 joinB (fun k50 => gate false (strEq l_4 c_4 1 117)
 (k50 (strEq l_4 c_4 1 85) h)
 (k50 true h)) fun b52 h51 =>
 oK (exBuild env (env.ty 28) [(0, (.int .u64 n49)), (1, (.bool b52))] h51) fun v53 h54 =>
 stn 2 v_2 v53 h54 fun h55 =>
 ldn 2 v_2 h55 fun v56 =>
 k (.tuple [v56, (.bool true)]) h55
noncomputable def z12 : J12 := ⟨fun _ _ _ => False, fun _ _ _ _ _ _ _ _ => False, fun _ _ _ _ _ => False⟩
noncomputable def r12 (c : Caller Prop FT) (k : KV) (m : Nat) : J12 := Nat.rec z12 (fun _ J => ⟨s12_0 c k J, s12_1 c k J, s12_2 c k J⟩) m
noncomputable def f12 (J : J12) : Jump := fun L f h => match L with
  | 0 => asS (f 0) fun l_0 c_0 => J.a0 l_0 c_0 h
  | 1 => asS (f 4) fun l_4 c_4 => asS (f 7) fun l_7 c_7 => asI .i64 (f 9) fun n_9 => asI .i64 (f 10) fun n_10 => J.a1 (f 2) l_4 c_4 l_7 c_7 n_9 n_10 h
  | 2 => asS (f 4) fun l_4 c_4 => asI .i64 (f 9) fun n_9 => J.a2 (f 2) l_4 c_4 n_9 h
  | _ => False
noncomputable def d12 : Code := Option.rec .skip (fun c => c) Go.Proofs.Tryd.f12.body
noncomputable def q12 : Plans := []
noncomputable def u12 : Cuts := [(.root, 0), ((.l (.r (.l (.r (.r (.l (.r (.r (.r (.r (.r .root))))))))))), 1), ((.r (.r (.r (.r (.r (.r .root)))))), 2)]
/- oxbow/pnum.Bytes -/
structure J13 where
  a0 : Nat → Nat → H → Prop
  a1 : Nat → Nat → AV → Nat → Nat → H → Prop
  a2 : H → Prop
  a3 : Nat → Nat → AV → Nat → Nat → Int → Int → H → Prop
noncomputable def s13_0 (c : Caller Prop FT) (k : KV) (J : J13) (l_0 : Nat) (c_0 : Nat) (h : H) : Prop :=
 Hp.newK h ob59 fun p1 h2 =>
 c (.func 29) [(.str l_0 c_0)] h2 fun v3 h4 =>
 ext 0 v3 fun v5 =>
 asS v5 fun l6 _ =>
 ext 1 v3 fun v8 =>
 asB v8 fun b9 =>
 cutS l_0 c_0 l6 l_0 fun l10 c11 =>
 joinB (fun k12 => gate false (bnot b9)
 (k12 (iblt (Int.ofNat l10) (Int.ofNat 2)) h4)
 (k12 true h4)) fun b14 h13 =>
 joinB (fun k15 => gate false b14
 (fI (wrap .i64 (isub (Int.ofNat l10) (Int.ofNat 1))) fun n18 =>
 natI n18 fun m19 =>
 idxS l10 c11 m19 fun m20 =>
 idxS l10 c11 0 fun m21 =>
 k15 (bnot (ibeq (Int.ofNat m20) (Int.ofNat m21))) h13)
 (k15 true h13)) fun b17 h16 =>
 cnd b17
 (J.a2 h16)
 (fI (wrap .i64 (isub (Int.ofNat l10) (Int.ofNat 1))) fun n22 =>
 natI n22 fun m23 =>
 cutS l10 c11 1 m23 fun l24 c25 =>
 cnd (strEq l24 c25 0 0)
 (c (.func 31) [(.ptr p1 0)] h16 fun v26 h27 =>
 asS v26 fun l28 c29 =>
 k (.tuple [(.str l28 c29), (.bool true)]) h27)
 (idxS l24 c25 0 fun m30 =>
 idxS l10 c11 0 fun m31 =>
 cnd (ibeq (Int.ofNat m30) (Int.ofNat m31))
 (J.a2 h16)
 (idxS l24 c25 0 fun m32 =>
 cnd (bnot (ibeq (Int.ofNat m32) (Int.ofNat 92)))
 (idxS l24 c25 0 fun m33 =>
 c (.func 32) [(.ptr p1 0), (.int .u8 (Int.ofNat m33))] h16 fun _ h35 =>
 cutS l24 c25 1 l24 fun l36 c37 =>
 J.a1 l10 c11 (.ptr p1 0) l36 c37 h35)
 (cutS l24 c25 1 l24 fun l38 c39 =>
 c (.func 33) [(.str l38 c39)] h16 fun v40 h41 =>
 ext 0 v40 fun v42 =>
 asI .u8 v42 fun n43 =>
 ext 1 v40 fun v44 =>
 asI .i64 v44 fun n45 =>
 J.a3 l10 c11 (.ptr p1 0) l24 c25 n43 n45 h41))))
noncomputable def s13_1 (c : Caller Prop FT) (k : KV) (J : J13) (l_0 : Nat) (c_0 : Nat) (v_4 : AV) (l_5 : Nat) (c_5 : Nat) (h : H) : Prop :=
 cnd (strEq l_5 c_5 0 0)
 (c (.func 31) [v_4] h fun v46 h47 =>
 asS v46 fun l48 c49 =>
 k (.tuple [(.str l48 c49), (.bool true)]) h47)
 (idxS l_5 c_5 0 fun m50 =>
 idxS l_0 c_0 0 fun m51 =>
 cnd (ibeq (Int.ofNat m50) (Int.ofNat m51))
 (J.a2 h)
 (idxS l_5 c_5 0 fun m52 =>
 cnd (bnot (ibeq (Int.ofNat m52) (Int.ofNat 92)))
 (idxS l_5 c_5 0 fun m53 =>
 c (.func 32) [v_4, (.int .u8 (Int.ofNat m53))] h fun _ h55 =>
 cutS l_5 c_5 1 l_5 fun l56 c57 =>
 J.a1 l_0 c_0 v_4 l56 c57 h55)
 (cutS l_5 c_5 1 l_5 fun l58 c59 =>
 c (.func 33) [(.str l58 c59)] h fun v60 h61 =>
 ext 0 v60 fun v62 =>
 asI .u8 v62 fun n63 =>
 ext 1 v60 fun v64 =>
 asI .i64 v64 fun n65 =>
 cnd (iblt (Int.ofNat 0) n65)
 (c (.func 32) [v_4, (.int .u8 n63)] h61 fun _ h67 =>
 fI (wrap .i64 (iadd (Int.ofNat 1) n65)) fun n68 =>
 natI n68 fun m69 =>
 cutS l_5 c_5 m69 l_5 fun l70 c71 =>
 J.a1 l_0 c_0 v_4 l70 c71 h67)
 (k (.tuple [(.str 0 0), (.bool false)]) h61))))
noncomputable def s13_2 (_c : Caller Prop FT) (k : KV) (_J : J13) (h : H) : Prop :=
 k (.tuple [(.str 0 0), (.bool false)]) h
noncomputable def s13_3 (c : Caller Prop FT) (k : KV) (J : J13) (l_0 : Nat) (c_0 : Nat) (v_4 : AV) (l_5 : Nat) (c_5 : Nat) (n_8 : Int) (n_9 : Int) (h : H) : Prop :=
 cnd (iblt (Int.ofNat 0) n_9)
 (c (.func 32) [v_4, (.int .u8 n_8)] h fun _ h73 =>
 fI (wrap .i64 (iadd (Int.ofNat 1) n_9)) fun n74 =>
 natI n74 fun m75 =>
 cutS l_5 c_5 m75 l_5 fun l76 c77 =>
 J.a1 l_0 c_0 v_4 l76 c77 h73)
 (k (.tuple [(.str 0 0), (.bool false)]) h)
noncomputable def z13 : J13 := ⟨fun _ _ _ => False, fun _ _ _ _ _ _ => False, fun _ => False, fun _ _ _ _ _ _ _ _ => False⟩
noncomputable def r13 (c : Caller Prop FT) (k : KV) (m : Nat) : J13 := Nat.rec z13 (fun _ J => ⟨s13_0 c k J, s13_1 c k J, s13_2 c k J, s13_3 c k J⟩) m
noncomputable def f13 (J : J13) : Jump := fun L f h => match L with
  | 0 => asS (f 0) fun l_0 c_0 => J.a0 l_0 c_0 h
  | 1 => asS (f 0) fun l_0 c_0 => asS (f 5) fun l_5 c_5 => J.a1 l_0 c_0 (f 4) l_5 c_5 h
  | 2 => J.a2 h
  | 3 => asS (f 0) fun l_0 c_0 => asS (f 5) fun l_5 c_5 => asI .u8 (f 8) fun n_8 => asI .i64 (f 9) fun n_9 => J.a3 l_0 c_0 (f 4) l_5 c_5 n_8 n_9 h
  | _ => False
noncomputable def d13 : Code := Option.rec .skip (fun c => c) Go.Proofs.Tryd.f13.body
noncomputable def q13 : Plans := [(5, [0, 1, 2, 3, 4, 5, 6, 7, 8, 9, 10, 11, 12, 13, 14, 15, 16]), (9, [0, 1, 2, 3, 4, 5])]
noncomputable def u13 : Cuts := [(.root, 0), ((.lab (.r .root) 1), 1), ((.lab (.r .root) 0), 2), ((.r (.l (.r (.r (.r (.r (.r (.r (.r (.l (.r .root))))))))))), 3)]
/- oxbow/oxbowref9.Bytes -/
structure J14 where
  a0 : Nat → Nat → H → Prop
  a1 : Int → Nat → Nat → AV → Int → H → Prop
  a2 : Int → Nat → Nat → AV → Int → H → Prop
noncomputable def s14_0 (c : Caller Prop FT) (k : KV) (J : J14) (l_0 : Nat) (c_0 : Nat) (h : H) : Prop :=
 c (.func 30) [(.str l_0 c_0)] h fun v1 h2 =>
 ext 0 v1 fun v3 =>
 asS v3 fun l4 _ =>
 ext 1 v1 fun v6 =>
 asI .u8 v6 fun n7 =>
 ext 2 v1 fun v8 =>
 asB v8 fun b9 =>
 cnd (bnot b9)
 (k (.tuple [(.str 0 0), (.bool false)]) h2)
 (fI (wrap .i64 (iadd (Int.ofNat l4) (Int.ofNat 1))) fun n10 =>
 fI (wrap .i64 (isub (Int.ofNat l_0) (Int.ofNat 1))) fun n11 =>
 natI n11 fun m12 =>
 natI n10 fun m13 =>
 cutS l_0 c_0 m13 m12 fun l14 c15 =>
 J.a1 n7 l14 c15 .nils (Int.ofNat 0) h2)
noncomputable def s14_1 (c : Caller Prop FT) (k : KV) (J : J14) (n_5 : Int) (l_7 : Nat) (c_7 : Nat) (v_8 : AV) (n_9 : Int) (h : H) : Prop :=
 cnd (iblt n_9 (Int.ofNat l_7))
 (natI n_9 fun m16 =>
 idxS l_7 c_7 m16 fun m17 =>
 cnd (ibeq (Int.ofNat m17) n_5)
 (k (.tuple [(.str 0 0), (.bool false)]) h)
 (cnd (ibeq (Int.ofNat m17) (Int.ofNat 92))
 (fI (wrap .i64 (iadd n_9 (Int.ofNat 1))) fun n18 =>
 natI n18 fun m19 =>
 cutS l_7 c_7 m19 l_7 fun l20 c21 =>
 c (.func 34) [(.str l20 c21)] h fun v22 h23 =>
 ext 0 v22 fun v24 =>
 asI .u8 v24 fun n25 =>
 ext 1 v22 fun v26 =>
 asI .i64 v26 fun n27 =>
 cnd (ibeq n27 (Int.ofNat 0))
 (k (.tuple [(.str 0 0), (.bool false)]) h23)
 (oK (withElem env 37 (fun e ei => exBuildSlice 1 [(0, (.int .u8 n25))] h23 e ei)) fun v28 h29 =>
 oK (builtinA env .append [37, 37] [v_8, v28] h29) fun v30 h31 =>
 fI (wrap .i64 (iadd n_9 n27)) fun n32 =>
 J.a2 n_5 l_7 c_7 v30 n32 h31))
 (natI n_9 fun m33 =>
 idxS l_7 c_7 m33 fun m34 =>
 oK (withElem env 37 (fun e ei => exBuildSlice 1 [(0, (.int .u8 (Int.ofNat m34)))] h e ei)) fun v35 h36 =>
 oK (builtinA env .append [37, 37] [v_8, v35] h36) fun v37 h38 =>
 J.a2 n_5 l_7 c_7 v37 n_9 h38)))
 (oK (convA env h 37 9 v_8) fun v39 h40 =>
 asS v39 fun l41 c42 =>
 k (.tuple [(.str l41 c42), (.bool true)]) h40)
noncomputable def s14_2 (_c : Caller Prop FT) (_k : KV) (J : J14) (n_5 : Int) (l_7 : Nat) (c_7 : Nat) (v_8 : AV) (n_9 : Int) (h : H) : Prop :=
 fI (wrap .i64 (iadd n_9 (Int.ofNat 1))) fun n43 =>
 J.a1 n_5 l_7 c_7 v_8 n43 h
noncomputable def z14 : J14 := ⟨fun _ _ _ => False, fun _ _ _ _ _ _ => False, fun _ _ _ _ _ _ => False⟩
noncomputable def r14 (c : Caller Prop FT) (k : KV) (m : Nat) : J14 := Nat.rec z14 (fun _ J => ⟨s14_0 c k J, s14_1 c k J, s14_2 c k J⟩) m
noncomputable def f14 (J : J14) : Jump := fun L f h => match L with
  | 0 => asS (f 0) fun l_0 c_0 => J.a0 l_0 c_0 h
  | 1 => asI .u8 (f 5) fun n_5 => asS (f 7) fun l_7 c_7 => asI .i64 (f 9) fun n_9 => J.a1 n_5 l_7 c_7 (f 8) n_9 h
  | 2 => asI .u8 (f 5) fun n_5 => asS (f 7) fun l_7 c_7 => asI .i64 (f 9) fun n_9 => J.a2 n_5 l_7 c_7 (f 8) n_9 h
  | _ => False
noncomputable def d14 : Code := Option.rec .skip (fun c => c) Go.Proofs.Tryd.f14.body
noncomputable def q14 : Plans := []
noncomputable def u14 : Cuts := [(.root, 0), ((.l (.r (.l (.r (.r (.r (.r (.r .root)))))))), 1), ((.r (.r (.l (.l (.r (.l (.r (.r (.r (.r (.r .root))))))))))), 2)]
/- oxbow/oxbowlaw13.same -/
structure J15 where
  a0 : AV → AV → H → Prop
noncomputable def s15_0 (_c : Caller Prop FT) (k : KV) (_J : J15) (v_0 : AV) (v_1 : AV) (h : H) : Prop :=
 asG v_0 fun g1 =>
 chk (Nat.ble 1 (len g1)) <|
 Hp.newK h (rowOf 25 g1) fun p2 h3 =>
 asG v_1 fun g4 =>
 chk (Nat.ble 1 (len g4)) <|
 Hp.newK h3 (rowOf 28 g4) fun p5 h6 =>
 fAddr 0 (.ptr p2 0) fun v7 =>
 ld1 v7 h6 fun v8 =>
 asI .u64 v8 fun n9 =>
 fAddr 0 (.ptr p5 0) fun v10 =>
 ld1 v10 h6 fun v11 =>
 asI .u64 v11 fun n12 =>
 joinB (fun k13 => gate true (ibeq n9 n12)
 (fAddr 1 (.ptr p2 0) fun v16 =>
 ld1 v16 h6 fun v17 =>
 asB v17 fun b18 =>
 fAddr 1 (.ptr p5 0) fun v19 =>
 ld1 v19 h6 fun v20 =>
 asB v20 fun b21 =>
 oV (binA env .eql 4 (.bool b18) (.bool b21)) fun v22 =>
 asB v22 fun b23 =>
 k13 b23 h6)
 (k13 false h6)) fun b15 h14 =>
 k (.bool b15) h14
noncomputable def z15 : J15 := ⟨fun _ _ _ => False⟩
noncomputable def r15 (c : Caller Prop FT) (k : KV) (m : Nat) : J15 := Nat.rec z15 (fun _ J => ⟨s15_0 c k J⟩) m
noncomputable def f15 (J : J15) : Jump := fun L f h => match L with
  | 0 => J.a0 (f 0) (f 1) h
  | _ => False
noncomputable def d15 : Code := Option.rec .skip (fun c => c) Go.Proofs.Tryd.f15.body
noncomputable def q15 : Plans := []
noncomputable def u15 : Cuts := [(.root, 0)]
/- oxbow/pnum.Float -/
structure J16 where
  a0 : Nat → Nat → H → Prop
  a1 : Nat → Nat → Nat → Nat → Nat → Nat → Int → Bool → H → Prop
  a2 : Nat → Nat → Nat → Nat → Nat → Nat → H → Prop
noncomputable def s16_0 (c : Caller Prop FT) (_k : KV) (J : J16) (l_0 : Nat) (c_0 : Nat) (h : H) : Prop :=
 c (.func 22) [(.str l_0 c_0)] h fun v1 h2 =>
 asB v1 fun b3 =>
 cnd b3
 (cutS l_0 c_0 2 l_0 fun l4 c5 =>
 J.a2 22 26291342665239622251265189840170011249128153612955952 2 20592 l4 c5 h2)
 (J.a2 10 270211885617516653982000 2 17765 l_0 c_0 h2)
noncomputable def s16_1 (c : Caller Prop FT) (k : KV) (_J : J16) (l_3 : Nat) (c_3 : Nat) (l_4 : Nat) (c_4 : Nat) (l_5 : Nat) (c_5 : Nat) (n_6 : Int) (b_7 : Bool) (h : H) : Prop :=
 c (.func 35) [(.str l_5 c_5), (.str l_4 c_4)] h fun v6 h7 =>
 ext 0 v6 fun v8 =>
 asS v8 fun l9 c10 =>
 ext 1 v6 fun v11 =>
 asB v11 fun b12 =>
 joinB (fun k13 => gate false (ibeq n_6 (Int.ofNat 0))
 (joinB (fun k16 => gate true (bnot b12)
 (joinB (fun k19 => gate false (bnot b_7)
 (k19 (strEq l_3 c_3 22 26291342665239622251265189840170011249128153612955952) h7)
 (k19 true h7)) fun b21 h20 =>
 k16 b21 h20)
 (k16 false h7)) fun b18 h17 =>
 k13 b18 h17)
 (k13 true h7)) fun b15 h14 =>
 cnd b15
 (k (.bool false) h14)
 (joinB (fun k22 => gate false (strEq l9 c10 0 0)
 (k22 (strEq l9 c10 1 102) h14)
 (k22 true h14)) fun b24 h23 =>
 joinB (fun k25 => gate false b24
 (k25 (strEq l9 c10 1 70) h23)
 (k25 true h23)) fun b27 h26 =>
 joinB (fun k28 => gate false b27
 (k28 (strEq l9 c10 1 108) h26)
 (k28 true h26)) fun b30 h29 =>
 joinB (fun k31 => gate false b30
 (k31 (strEq l9 c10 1 76) h29)
 (k31 true h29)) fun b33 h32 =>
 k (.bool b33) h32)
noncomputable def s16_2 (c : Caller Prop FT) (_k : KV) (J : J16) (l_3 : Nat) (c_3 : Nat) (l_4 : Nat) (c_4 : Nat) (l_5 : Nat) (c_5 : Nat) (h : H) : Prop :=
 c (.func 24) [(.str l_5 c_5), (.str l_3 c_3)] h fun v34 h35 =>
 asI .i64 v34 fun n36 =>
 natI n36 fun m37 =>
 cutS l_5 c_5 m37 l_5 fun l38 c39 =>
 c (.func 23) [(.str l38 c39), (.str 1 46)] h35 fun v40 h41 =>
 asB v40 fun b42 =>
 cnd b42
 (cutS l38 c39 1 l38 fun l43 c44 =>
 c (.func 24) [(.str l43 c44), (.str l_3 c_3)] h41 fun v45 h46 =>
 asI .i64 v45 fun n47 =>
 fI (wrap .i64 (iadd n36 n47)) fun n48 =>
 fI (wrap .i64 (iadd (Int.ofNat 1) n47)) fun n49 =>
 natI n49 fun m50 =>
 cutS l38 c39 m50 l38 fun l51 c52 =>
 J.a1 l_3 c_3 l_4 c_4 l51 c52 n48 b42 h46)
 (J.a1 l_3 c_3 l_4 c_4 l38 c39 n36 b42 h41)
noncomputable def z16 : J16 := ⟨fun _ _ _ => False, fun _ _ _ _ _ _ _ _ _ => False, fun _ _ _ _ _ _ _ => False⟩
noncomputable def r16 (c : Caller Prop FT) (k : KV) (m : Nat) : J16 := Nat.rec z16 (fun _ J => ⟨s16_0 c k J, s16_1 c k J, s16_2 c k J⟩) m
noncomputable def f16 (J : J16) : Jump := fun L f h => match L with
  | 0 => asS (f 0) fun l_0 c_0 => J.a0 l_0 c_0 h
  | 1 => asS (f 3) fun l_3 c_3 => asS (f 4) fun l_4 c_4 => asS (f 5) fun l_5 c_5 => asI .i64 (f 6) fun n_6 => asB (f 7) fun b_7 => J.a1 l_3 c_3 l_4 c_4 l_5 c_5 n_6 b_7 h
  | 2 => asS (f 3) fun l_3 c_3 => asS (f 4) fun l_4 c_4 => asS (f 5) fun l_5 c_5 => J.a2 l_3 c_3 l_4 c_4 l_5 c_5 h
  | _ => False
noncomputable def d16 : Code := Option.rec .skip (fun c => c) Go.Proofs.Tryd.f16.body
noncomputable def q16 : Plans := [(3, [0, 1, 2, 3, 4]), (9, [0, 1, 2, 3, 4, 5, 6, 7, 8])]
noncomputable def u16 : Cuts := [(.root, 0), ((.r (.r (.r (.r (.r (.r (.r .root))))))), 1), ((.r (.r (.r .root))), 2)]
/- oxbow/oxbowref9.Float -/
structure J17 where
  a0 : Nat → Nat → H → Prop
  a1 : Nat → Nat → Int → Int → Bool → Bool → H → Prop
  a2 : Nat → Nat → Int → Int → Int → Bool → H → Prop
  a3 : Nat → Nat → Int → Int → H → Prop
noncomputable def s17_0 (_c : Caller Prop FT) (_k : KV) (J : J17) (l_0 : Nat) (c_0 : Nat) (h : H) : Prop :=
 joinB (fun k1 => gate true (iblt (Int.ofNat 1) (Int.ofNat l_0))
 (idxS l_0 c_0 0 fun m4 =>
 k1 (ibeq (Int.ofNat m4) (Int.ofNat 48)) h)
 (k1 false h)) fun b3 h2 =>
 joinB (fun k5 => gate true b3
 (idxS l_0 c_0 1 fun m8 =>
 joinB (fun k9 => gate false (ibeq (Int.ofNat m8) (Int.ofNat 120))
 (idxS l_0 c_0 1 fun m12 =>
 k9 (ibeq (Int.ofNat m12) (Int.ofNat 88)) h2)
 (k9 true h2)) fun b11 h10 =>
 k5 b11 h10)
 (k5 false h2)) fun b7 h6 =>
 cnd b7
 (J.a3 l_0 c_0 (Int.ofNat 16) (Int.ofNat 2) h6)
 (J.a3 l_0 c_0 (Int.ofNat 10) (Int.ofNat 0) h6)
noncomputable def s17_1 (_c : Caller Prop FT) (k : KV) (_J : J17) (l_0 : Nat) (c_0 : Nat) (n_3 : Int) (n_6 : Int) (b_7 : Bool) (b_9 : Bool) (h : H) : Prop :=
 joinB (fun k13 => gate true (bnot b_9)
 (joinB (fun k16 => gate false (ibeq n_3 (Int.ofNat 16))
 (k16 (bnot b_7) h)
 (k16 true h)) fun b18 h17 =>
 k13 b18 h17)
 (k13 false h)) fun b15 h14 =>
 cnd b15
 (k (.bool false) h14)
 (joinB (fun k19 => gate false (ibeq n_6 (Int.ofNat l_0))
 (fI (wrap .i64 (iadd n_6 (Int.ofNat 1))) fun n22 =>
 joinB (fun k23 => gate true (ibeq n22 (Int.ofNat l_0))
 (natI n_6 fun m26 =>
 idxS l_0 c_0 m26 fun m27 =>
 joinB (fun k28 => gate false (ibeq (Int.ofNat m27) (Int.ofNat 102))
 (natI n_6 fun m31 =>
 idxS l_0 c_0 m31 fun m32 =>
 k28 (ibeq (Int.ofNat m32) (Int.ofNat 70)) h14)
 (k28 true h14)) fun b30 h29 =>
 joinB (fun k33 => gate false b30
 (natI n_6 fun m36 =>
 idxS l_0 c_0 m36 fun m37 =>
 k33 (ibeq (Int.ofNat m37) (Int.ofNat 108)) h29)
 (k33 true h29)) fun b35 h34 =>
 joinB (fun k38 => gate false b35
 (natI n_6 fun m41 =>
 idxS l_0 c_0 m41 fun m42 =>
 k38 (ibeq (Int.ofNat m42) (Int.ofNat 76)) h34)
 (k38 true h34)) fun b40 h39 =>
 k23 b40 h39)
 (k23 false h14)) fun b25 h24 =>
 k19 b25 h24)
 (k19 true h14)) fun b21 h20 =>
 k (.bool b21) h20)
noncomputable def s17_2 (c : Caller Prop FT) (k : KV) (J : J17) (l_0 : Nat) (c_0 : Nat) (n_3 : Int) (n_5 : Int) (n_6 : Int) (b_7 : Bool) (h : H) : Prop :=
 cnd (ibeq n_5 (Int.ofNat 0))
 (k (.bool false) h)
 (joinB (fun k43 => gate true (iblt n_6 (Int.ofNat l_0))
 (joinB (fun k46 => gate true (ibeq n_3 (Int.ofNat 10))
 (natI n_6 fun m49 =>
 idxS l_0 c_0 m49 fun m50 =>
 joinB (fun k51 => gate false (ibeq (Int.ofNat m50) (Int.ofNat 101))
 (natI n_6 fun m54 =>
 idxS l_0 c_0 m54 fun m55 =>
 k51 (ibeq (Int.ofNat m55) (Int.ofNat 69)) h)
 (k51 true h)) fun b53 h52 =>
 k46 b53 h52)
 (k46 false h)) fun b48 h47 =>
 joinB (fun k56 => gate false b48
 (joinB (fun k59 => gate true (ibeq n_3 (Int.ofNat 16))
 (natI n_6 fun m62 =>
 idxS l_0 c_0 m62 fun m63 =>
 joinB (fun k64 => gate false (ibeq (Int.ofNat m63) (Int.ofNat 112))
 (natI n_6 fun m67 =>
 idxS l_0 c_0 m67 fun m68 =>
 k64 (ibeq (Int.ofNat m68) (Int.ofNat 80)) h47)
 (k64 true h47)) fun b66 h65 =>
 k59 b66 h65)
 (k59 false h47)) fun b61 h60 =>
 k56 b61 h60)
 (k56 true h47)) fun b58 h57 =>
 k43 b58 h57)
 (k43 false h)) fun b45 h44 =>
 cnd b45
 (fI (wrap .i64 (iadd n_6 (Int.ofNat 1))) fun n69 =>
 c (.func 36) [(.str l_0 c_0), (.int .i64 n69)] h44 fun v70 h71 =>
 ext 0 v70 fun v72 =>
 asI .i64 v72 fun n73 =>
 ext 1 v70 fun v74 =>
 asB v74 fun b75 =>
 cnd (bnot b75)
 (k (.bool false) h71)
 (J.a1 l_0 c_0 n_3 n73 b_7 b45 h71))
 (J.a1 l_0 c_0 n_3 n_6 b_7 b45 h44))
noncomputable def s17_3 (c : Caller Prop FT) (_k : KV) (J : J17) (l_0 : Nat) (c_0 : Nat) (n_3 : Int) (n_4 : Int) (h : H) : Prop :=
 c (.func 26) [(.str l_0 c_0), (.int .i64 n_4), (.int .i64 n_3)] h fun v76 h77 =>
 asI .i64 v76 fun n78 =>
 fI (wrap .i64 (iadd n_4 n78)) fun n79 =>
 joinB (fun k80 => gate true (iblt n79 (Int.ofNat l_0))
 (natI n79 fun m83 =>
 idxS l_0 c_0 m83 fun m84 =>
 k80 (ibeq (Int.ofNat m84) (Int.ofNat 46)) h77)
 (k80 false h77)) fun b82 h81 =>
 cnd b82
 (fI (wrap .i64 (iadd n79 (Int.ofNat 1))) fun n85 =>
 c (.func 26) [(.str l_0 c_0), (.int .i64 n85), (.int .i64 n_3)] h81 fun v86 h87 =>
 asI .i64 v86 fun n88 =>
 fI (wrap .i64 (iadd n78 n88)) fun n89 =>
 fI (wrap .i64 (iadd n79 (Int.ofNat 1))) fun n90 =>
 fI (wrap .i64 (iadd n90 n88)) fun n91 =>
 J.a2 l_0 c_0 n_3 n89 n91 b82 h87)
 (J.a2 l_0 c_0 n_3 n78 n79 b82 h81)
noncomputable def z17 : J17 := ⟨fun _ _ _ => False, fun _ _ _ _ _ _ _ => False, fun _ _ _ _ _ _ _ => False, fun _ _ _ _ _ => False⟩
noncomputable def r17 (c : Caller Prop FT) (k : KV) (m : Nat) : J17 := Nat.rec z17 (fun _ J => ⟨s17_0 c k J, s17_1 c k J, s17_2 c k J, s17_3 c k J⟩) m
noncomputable def f17 (J : J17) : Jump := fun L f h => match L with
  | 0 => asS (f 0) fun l_0 c_0 => J.a0 l_0 c_0 h
  | 1 => asS (f 0) fun l_0 c_0 => asI .i64 (f 3) fun n_3 => asI .i64 (f 6) fun n_6 => asB (f 7) fun b_7 => asB (f 9) fun b_9 => J.a1 l_0 c_0 n_3 n_6 b_7 b_9 h
  | 2 => asS (f 0) fun l_0 c_0 => asI .i64 (f 3) fun n_3 => asI .i64 (f 5) fun n_5 => asI .i64 (f 6) fun n_6 => asB (f 7) fun b_7 => J.a2 l_0 c_0 n_3 n_5 n_6 b_7 h
  | 3 => asS (f 0) fun l_0 c_0 => asI .i64 (f 3) fun n_3 => asI .i64 (f 4) fun n_4 => J.a3 l_0 c_0 n_3 n_4 h
  | _ => False
noncomputable def d17 : Code := Option.rec .skip (fun c => c) Go.Proofs.Tryd.f17.body
noncomputable def q17 : Plans := []
noncomputable def u17 : Cuts := [(.root, 0), ((.r (.r (.r (.r (.r (.r (.r (.r (.r (.r .root)))))))))), 1), ((.r (.r (.r (.r (.r (.r (.r .root))))))), 2), ((.r (.r (.r .root))), 3)]
/- oxbow/oxbowalike.Round -/
structure J18 where
  a0 : Int → Int → H → Prop
noncomputable def s18_0 (_c : Caller Prop FT) (k : KV) (_J : J18) (n_0 : Int) (n_1 : Int) (h : H) : Prop :=
 remI n_0 n_1 fun n1 =>
 fI (wrap .i64 (iadd n1 n_1)) fun n2 =>
 remI n2 n_1 fun n3 =>
 k (.int .i64 n3) h
noncomputable def z18 : J18 := ⟨fun _ _ _ => False⟩
noncomputable def r18 (c : Caller Prop FT) (k : KV) (m : Nat) : J18 := Nat.rec z18 (fun _ J => ⟨s18_0 c k J⟩) m
noncomputable def f18 (J : J18) : Jump := fun L f h => match L with
  | 0 => asI .i64 (f 0) fun n_0 => asI .i64 (f 1) fun n_1 => J.a0 n_0 n_1 h
  | _ => False
noncomputable def d18 : Code := Option.rec .skip (fun c => c) Go.Proofs.Tryd.f18.body
noncomputable def q18 : Plans := []
noncomputable def u18 : Cuts := [(.root, 0)]
/- oxbow/oxbowlaw13.digits -/
structure J19 where
  a0 : Nat → Nat → H → Prop
  a1 : Nat → Nat → Int → H → Prop
noncomputable def s19_0 (_c : Caller Prop FT) (_k : KV) (J : J19) (l_0 : Nat) (c_0 : Nat) (h : H) : Prop :=
 J.a1 l_0 c_0 (Int.ofNat 0) h
noncomputable def s19_1 (_c : Caller Prop FT) (k : KV) (J : J19) (l_0 : Nat) (c_0 : Nat) (n_3 : Int) (h : H) : Prop :=
 cnd (iblt n_3 (Int.ofNat l_0))
 (natI n_3 fun m1 =>
 idxS l_0 c_0 m1 fun m2 =>
 joinB (fun k3 => gate false (iblt (Int.ofNat m2) (Int.ofNat 48))
 (natI n_3 fun m6 =>
 idxS l_0 c_0 m6 fun m7 =>
 k3 (iblt (Int.ofNat 57) (Int.ofNat m7)) h)
 (k3 true h)) fun b5 h4 =>
 cnd b5
 (k (.bool false) h4)
 (fI (wrap .i64 (iadd n_3 (Int.ofNat 1))) fun n8 =>
 J.a1 l_0 c_0 n8 h4))
 (k (.bool true) h)
noncomputable def z19 : J19 := ⟨fun _ _ _ => False, fun _ _ _ _ => False⟩
noncomputable def r19 (c : Caller Prop FT) (k : KV) (m : Nat) : J19 := Nat.rec z19 (fun _ J => ⟨s19_0 c k J, s19_1 c k J⟩) m
noncomputable def f19 (J : J19) : Jump := fun L f h => match L with
  | 0 => asS (f 0) fun l_0 c_0 => J.a0 l_0 c_0 h
  | 1 => asS (f 0) fun l_0 c_0 => asI .i64 (f 3) fun n_3 => J.a1 l_0 c_0 n_3 h
  | _ => False
noncomputable def d19 : Code := Option.rec .skip (fun c => c) Go.Proofs.Tryd.f19.body
noncomputable def q19 : Plans := []
noncomputable def u19 : Cuts := [(.root, 0), ((.l (.r (.l (.r .root)))), 1)]
/- strings.TrimRight -/
structure J20 where
  a0 : Nat → Nat → Nat → Nat → H → Prop
noncomputable def s20_0 (c : Caller Prop FT) (k : KV) (_J : J20) (l_0 : Nat) (c_0 : Nat) (l_1 : Nat) (c_1 : Nat) (h : H) : Prop :=
 joinB (fun k1 => gate false (strEq l_0 c_0 0 0)
 (k1 (strEq l_1 c_1 0 0) h)
 (k1 true h)) fun b3 h2 =>
 cnd b3
 (k (.str l_0 c_0) h2)
 (joinB (fun k4 => gate true (ibeq (Int.ofNat l_1) (Int.ofNat 1))
 (idxS l_1 c_1 0 fun m7 =>
 k4 (iblt (Int.ofNat m7) (Int.ofNat 128)) h2)
 (k4 false h2)) fun b6 h5 =>
 cnd b6
 (idxS l_1 c_1 0 fun m8 =>
 c (.func 37) [(.str l_0 c_0), (.int .u8 (Int.ofNat m8))] h5 fun v9 h10 =>
 asS v9 fun l11 c12 =>
 k (.str l11 c12) h10)
 (c (.func 38) [(.str l_1 c_1)] h5 fun v13 h14 =>
 ext 0 v13 fun v15 =>
 ext 1 v13 fun v16 =>
 asB v16 fun b17 =>
 Hp.newK h14 ob69 fun p18 h19 =>
 stn 256 (.ptr p18 0) v15 h19 fun h20 =>
 cnd b17
 (c (.func 39) [(.str l_0 c_0), (.ptr p18 0)] h20 fun v21 h22 =>
 asS v21 fun l23 c24 =>
 k (.str l23 c24) h22)
 (c (.func 40) [(.str l_0 c_0), (.str l_1 c_1)] h20 fun v25 h26 =>
 asS v25 fun l27 c28 =>
 k (.str l27 c28) h26)))
noncomputable def z20 : J20 := ⟨fun _ _ _ _ _ => False⟩
noncomputable def r20 (c : Caller Prop FT) (k : KV) (m : Nat) : J20 := Nat.rec z20 (fun _ J => ⟨s20_0 c k J⟩) m
noncomputable def f20 (J : J20) : Jump := fun L f h => match L with
  | 0 => asS (f 0) fun l_0 c_0 => asS (f 1) fun l_1 c_1 => J.a0 l_0 c_0 l_1 c_1 h
  | _ => False
noncomputable def d20 : Code := Option.rec .skip (fun c => c) Go.Proofs.Tryd.f20.body
noncomputable def q20 : Plans := []
noncomputable def u20 : Cuts := [(.root, 0)]
/- oxbow/pnum.suffix -/
structure J21 where
  a0 : Nat → Nat → H → Prop
  a1 : Nat → Nat → Bool → H → Prop
noncomputable def s21_0 (_c : Caller Prop FT) (_k : KV) (J : J21) (l_0 : Nat) (c_0 : Nat) (h : H) : Prop :=
 cnd (strEq l_0 c_0 0 0)
 (J.a1 l_0 c_0 false h)
 (idxS l_0 c_0 0 fun m1 =>
 joinB (fun k2 => gate false (ibeq (Int.ofNat m1) (Int.ofNat 117))
 (idxS l_0 c_0 0 fun m5 =>
 k2 (ibeq (Int.ofNat m5) (Int.ofNat 85)) h)
 (k2 true h)) fun b4 h3 =>
 cnd b4
 (cutS l_0 c_0 1 l_0 fun l6 c7 =>
 J.a1 l6 c7 true h3)
 (fI (wrap .i64 (isub (Int.ofNat l_0) (Int.ofNat 1))) fun n8 =>
 natI n8 fun m9 =>
 idxS l_0 c_0 m9 fun m10 =>
 joinB (fun k11 => gate false (ibeq (Int.ofNat m10) (Int.ofNat 117))
 (fI (wrap .i64 (isub (Int.ofNat l_0) (Int.ofNat 1))) fun n14 =>
 natI n14 fun m15 =>
 idxS l_0 c_0 m15 fun m16 =>
 k11 (ibeq (Int.ofNat m16) (Int.ofNat 85)) h3)
 (k11 true h3)) fun b13 h12 =>
 cnd b13
 (fI (wrap .i64 (isub (Int.ofNat l_0) (Int.ofNat 1))) fun n17 =>
 natI n17 fun m18 =>
 cutS l_0 c_0 0 m18 fun l19 c20 =>
 J.a1 l19 c20 true h12)
 (J.a1 l_0 c_0 false h12)))
noncomputable def s21_1 (_c : Caller Prop FT) (k : KV) (_J : J21) (l_0 : Nat) (c_0 : Nat) (b_2 : Bool) (h : H) : Prop :=
 joinB (fun k21 => gate false (strEq l_0 c_0 0 0)
 (k21 (strEq l_0 c_0 1 108) h)
 (k21 true h)) fun b23 h22 =>
 joinB (fun k24 => gate false b23
 (k24 (strEq l_0 c_0 1 76) h22)
 (k24 true h22)) fun b26 h25 =>
 joinB (fun k27 => gate false b26
 (k27 (strEq l_0 c_0 2 27756) h25)
 (k27 true h25)) fun b29 h28 =>
 joinB (fun k30 => gate false b29
 (k30 (strEq l_0 c_0 2 19532) h28)
 (k30 true h28)) fun b32 h31 =>
 k (.tuple [(.bool b_2), (.bool b32)]) h31
noncomputable def z21 : J21 := ⟨fun _ _ _ => False, fun _ _ _ _ => False⟩
noncomputable def r21 (c : Caller Prop FT) (k : KV) (m : Nat) : J21 := Nat.rec z21 (fun _ J => ⟨s21_0 c k J, s21_1 c k J⟩) m
noncomputable def f21 (J : J21) : Jump := fun L f h => match L with
  | 0 => asS (f 0) fun l_0 c_0 => J.a0 l_0 c_0 h
  | 1 => asS (f 0) fun l_0 c_0 => asB (f 2) fun b_2 => J.a1 l_0 c_0 b_2 h
  | _ => False
noncomputable def d21 : Code := Option.rec .skip (fun c => c) Go.Proofs.Tryd.f21.body
noncomputable def q21 : Plans := [(3, [0, 1, 2, 3]), (5, [0, 1, 2, 3, 4, 5, 6])]
noncomputable def u21 : Cuts := [(.root, 0), ((.r (.r .root)), 1)]
/- oxbow/pnum.hexed -/
structure J22 where
  a0 : Nat → Nat → H → Prop
noncomputable def s22_0 (c : Caller Prop FT) (k : KV) (_J : J22) (l_0 : Nat) (c_0 : Nat) (h : H) : Prop :=
 c (.func 23) [(.str l_0 c_0), (.str 2 30768)] h fun v1 h2 =>
 asB v1 fun b3 =>
 joinB (fun k4 => gate false b3
 (c (.func 23) [(.str l_0 c_0), (.str 2 22576)] h2 fun v7 h8 =>
 asB v7 fun b9 =>
 k4 b9 h8)
 (k4 true h2)) fun b6 h5 =>
 k (.bool b6) h5
noncomputable def z22 : J22 := ⟨fun _ _ _ => False⟩
noncomputable def r22 (c : Caller Prop FT) (k : KV) (m : Nat) : J22 := Nat.rec z22 (fun _ J => ⟨s22_0 c k J⟩) m
noncomputable def f22 (J : J22) : Jump := fun L f h => match L with
  | 0 => asS (f 0) fun l_0 c_0 => J.a0 l_0 c_0 h
  | _ => False
noncomputable def d22 : Code := Option.rec .skip (fun c => c) Go.Proofs.Tryd.f22.body
noncomputable def q22 : Plans := []
noncomputable def u22 : Cuts := [(.root, 0)]
/- strings.HasPrefix -/
structure J23 where
  a0 : Nat → Nat → Nat → Nat → H → Prop
noncomputable def s23_0 (c : Caller Prop FT) (k : KV) (_J : J23) (l_0 : Nat) (c_0 : Nat) (l_1 : Nat) (c_1 : Nat) (h : H) : Prop :=
 c (.func 41) [(.str l_0 c_0), (.str l_1 c_1)] h fun v1 h2 =>
 asB v1 fun b3 =>
 k (.bool b3) h2
noncomputable def z23 : J23 := ⟨fun _ _ _ _ _ => False⟩
noncomputable def r23 (c : Caller Prop FT) (k : KV) (m : Nat) : J23 := Nat.rec z23 (fun _ J => ⟨s23_0 c k J⟩) m
noncomputable def f23 (J : J23) : Jump := fun L f h => match L with
  | 0 => asS (f 0) fun l_0 c_0 => asS (f 1) fun l_1 c_1 => J.a0 l_0 c_0 l_1 c_1 h
  | _ => False
noncomputable def d23 : Code := Option.rec .skip (fun c => c) Go.Proofs.Tryd.f23.body
noncomputable def q23 : Plans := []
noncomputable def u23 : Cuts := [(.root, 0)]
/- oxbow/pnum.run -/
structure J24 where
  a0 : Nat → Nat → Nat → Nat → H → Prop
noncomputable def s24_0 (c : Caller Prop FT) (k : KV) (_J : J24) (l_0 : Nat) (c_0 : Nat) (l_1 : Nat) (c_1 : Nat) (h : H) : Prop :=
 c (.func 42) [(.str l_0 c_0), (.str l_1 c_1)] h fun v1 h2 =>
 asS v1 fun l3 _ =>
 fI (wrap .i64 (isub (Int.ofNat l_0) (Int.ofNat l3))) fun n5 =>
 k (.int .i64 n5) h2
noncomputable def z24 : J24 := ⟨fun _ _ _ _ _ => False⟩
noncomputable def r24 (c : Caller Prop FT) (k : KV) (m : Nat) : J24 := Nat.rec z24 (fun _ J => ⟨s24_0 c k J⟩) m
noncomputable def f24 (J : J24) : Jump := fun L f h => match L with
  | 0 => asS (f 0) fun l_0 c_0 => asS (f 1) fun l_1 c_1 => J.a0 l_0 c_0 l_1 c_1 h
  | _ => False
noncomputable def d24 : Code := Option.rec .skip (fun c => c) Go.Proofs.Tryd.f24.body
noncomputable def q24 : Plans := []
noncomputable def u24 : Cuts := [(.root, 0)]
/- strconv.ParseUint -/
structure J25 where
  a0 : Nat → Nat → Int → Int → H → Prop
noncomputable def s25_0 (c : Caller Prop FT) (k : KV) (_J : J25) (l_0 : Nat) (c_0 : Nat) (n_1 : Int) (n_2 : Int) (h : H) : Prop :=
 c (.func 43) [(.str l_0 c_0), (.int .i64 n_1), (.int .i64 n_2)] h fun v1 h2 =>
 ext 0 v1 fun v3 =>
 asI .u64 v3 fun n4 =>
 ext 1 v1 fun v5 =>
 oV (binA env .neq 50 v5 .nili) fun v6 =>
 asB v6 fun b7 =>
 cnd b7
 (c (.func 44) [(.str 9 2147778296661251613008), (.str l_0 c_0), (.int .i64 n_1), (.int .i64 n_2), v5] h2 fun v8 h9 =>
 k (.tuple [(.int .u64 n4), v8]) h9)
 (k (.tuple [(.int .u64 n4), .nili]) h2)
noncomputable def z25 : J25 := ⟨fun _ _ _ _ _ => False⟩
noncomputable def r25 (c : Caller Prop FT) (k : KV) (m : Nat) : J25 := Nat.rec z25 (fun _ J => ⟨s25_0 c k J⟩) m
noncomputable def f25 (J : J25) : Jump := fun L f h => match L with
  | 0 => asS (f 0) fun l_0 c_0 => asI .i64 (f 1) fun n_1 => asI .i64 (f 2) fun n_2 => J.a0 l_0 c_0 n_1 n_2 h
  | _ => False
noncomputable def d25 : Code := Option.rec .skip (fun c => c) Go.Proofs.Tryd.f25.body
noncomputable def q25 : Plans := []
noncomputable def u25 : Cuts := [(.root, 0)]
/- oxbow/oxbowref9.digits -/
structure J26 where
  a0 : Nat → Nat → Int → Int → H → Prop
  a1 : Nat → Nat → Int → Int → Int → H → Prop
noncomputable def s26_0 (_c : Caller Prop FT) (_k : KV) (J : J26) (l_0 : Nat) (c_0 : Nat) (n_1 : Int) (n_2 : Int) (h : H) : Prop :=
 J.a1 l_0 c_0 n_1 n_2 (Int.ofNat 0) h
noncomputable def s26_1 (c : Caller Prop FT) (k : KV) (J : J26) (l_0 : Nat) (c_0 : Nat) (n_1 : Int) (n_2 : Int) (n_7 : Int) (h : H) : Prop :=
 fI (wrap .i64 (iadd n_1 n_7)) fun n1 =>
 joinB (fun k2 => gate true (iblt n1 (Int.ofNat l_0))
 (fI (wrap .i64 (iadd n_1 n_7)) fun n5 =>
 natI n5 fun m6 =>
 idxS l_0 c_0 m6 fun m7 =>
 c (.func 27) [(.int .u8 (Int.ofNat m7))] h fun v8 h9 =>
 asI .i64 v8 fun n10 =>
 k2 (iblt n10 n_2) h9)
 (k2 false h)) fun b4 h3 =>
 cnd b4
 (fI (wrap .i64 (iadd n_7 (Int.ofNat 1))) fun n11 =>
 J.a1 l_0 c_0 n_1 n_2 n11 h3)
 (k (.int .i64 n_7) h3)
noncomputable def z26 : J26 := ⟨fun _ _ _ _ _ => False, fun _ _ _ _ _ _ => False⟩
noncomputable def r26 (c : Caller Prop FT) (k : KV) (m : Nat) : J26 := Nat.rec z26 (fun _ J => ⟨s26_0 c k J, s26_1 c k J⟩) m
noncomputable def f26 (J : J26) : Jump := fun L f h => match L with
  | 0 => asS (f 0) fun l_0 c_0 => asI .i64 (f 1) fun n_1 => asI .i64 (f 2) fun n_2 => J.a0 l_0 c_0 n_1 n_2 h
  | 1 => asS (f 0) fun l_0 c_0 => asI .i64 (f 1) fun n_1 => asI .i64 (f 2) fun n_2 => asI .i64 (f 7) fun n_7 => J.a1 l_0 c_0 n_1 n_2 n_7 h
  | _ => False
noncomputable def d26 : Code := Option.rec .skip (fun c => c) Go.Proofs.Tryd.f26.body
noncomputable def q26 : Plans := []
noncomputable def u26 : Cuts := [(.root, 0), ((.l (.l (.r (.r .root)))), 1)]
/- oxbow/oxbowref9.value -/
structure J27 where
  a0 : Int → H → Prop
noncomputable def s27_0 (_c : Caller Prop FT) (k : KV) (_J : J27) (n_0 : Int) (h : H) : Prop :=
 joinB (fun k1 => gate true (ible (Int.ofNat 48) n_0)
 (k1 (ible n_0 (Int.ofNat 57)) h)
 (k1 false h)) fun b3 h2 =>
 cnd b3
 (fI (wrap .u8 (isub n_0 (Int.ofNat 48))) fun n4 =>
 fI (wrap .i64 n4) fun n5 =>
 k (.int .i64 n5) h2)
 (joinB (fun k6 => gate true (ible (Int.ofNat 97) n_0)
 (k6 (ible n_0 (Int.ofNat 102)) h2)
 (k6 false h2)) fun b8 h7 =>
 cnd b8
 (fI (wrap .u8 (isub n_0 (Int.ofNat 97))) fun n9 =>
 fI (wrap .i64 n9) fun n10 =>
 fI (wrap .i64 (iadd n10 (Int.ofNat 10))) fun n11 =>
 k (.int .i64 n11) h7)
 (joinB (fun k12 => gate true (ible (Int.ofNat 65) n_0)
 (k12 (ible n_0 (Int.ofNat 70)) h7)
 (k12 false h7)) fun b14 h13 =>
 cnd b14
 (fI (wrap .u8 (isub n_0 (Int.ofNat 65))) fun n15 =>
 fI (wrap .i64 n15) fun n16 =>
 fI (wrap .i64 (iadd n16 (Int.ofNat 10))) fun n17 =>
 k (.int .i64 n17) h13)
 (k (.int .i64 (Int.ofNat 99)) h13)))
noncomputable def z27 : J27 := ⟨fun _ _ => False⟩
noncomputable def r27 (c : Caller Prop FT) (k : KV) (m : Nat) : J27 := Nat.rec z27 (fun _ J => ⟨s27_0 c k J⟩) m
noncomputable def f27 (J : J27) : Jump := fun L f h => match L with
  | 0 => asI .u8 (f 0) fun n_0 => J.a0 n_0 h
  | _ => False
noncomputable def d27 : Code := Option.rec .skip (fun c => c) Go.Proofs.Tryd.f27.body
noncomputable def q27 : Plans := []
noncomputable def u27 : Cuts := [(.root, 0)]
/- oxbow/oxbowref9.suffix -/
structure J28 where
  a0 : Nat → Nat → H → Prop
  a1 : Nat → Nat → AV → Nat → Nat → Int → H → Prop
  a2 : Nat → Nat → AV → Nat → Nat → Int → Int → H → Prop
  a3 : AV → Nat → Nat → Int → H → Prop
noncomputable def s28_0 (_c : Caller Prop FT) (_k : KV) (J : J28) (l_0 : Nat) (c_0 : Nat) (h : H) : Prop :=
 oK (withElem env 35 (fun e ei => exBuildSlice 8 [(0, (.str 0 0)), (1, (.str 1 117)), (2, (.str 1 108)), (3, (.str 2 27765)), (4, (.str 2 30060)), (5, (.str 2 27756)), (6, (.str 3 7105653)), (7, (.str 3 7695468))] h e ei)) fun v1 h2 =>
 J.a1 l_0 c_0 v1 0 0 (Int.ofNat 0) h2
noncomputable def s28_1 (_c : Caller Prop FT) (k : KV) (J : J28) (l_0 : Nat) (c_0 : Nat) (v_4 : AV) (l_5 : Nat) (c_5 : Nat) (n_6 : Int) (h : H) : Prop :=
 cnd (iblt n_6 (Int.ofNat l_0))
 (natI n_6 fun m3 =>
 idxS l_0 c_0 m3 fun m4 =>
 cnd (ibeq (Int.ofNat m4) (Int.ofNat 85))
 (J.a2 l_0 c_0 v_4 l_5 c_5 n_6 (Int.ofNat 117) h)
 (cnd (ibeq (Int.ofNat m4) (Int.ofNat 76))
 (fI (wrap .i64 (iadd n_6 (Int.ofNat 1))) fun n5 =>
 joinB (fun k6 => gate true (iblt n5 (Int.ofNat l_0))
 (fI (wrap .i64 (iadd n_6 (Int.ofNat 1))) fun n9 =>
 natI n9 fun m10 =>
 idxS l_0 c_0 m10 fun m11 =>
 k6 (ibeq (Int.ofNat m11) (Int.ofNat 108)) h)
 (k6 false h)) fun b8 h7 =>
 joinB (fun k12 => gate false b8
 (joinB (fun k15 => gate true (iblt (Int.ofNat 0) n_6)
 (fI (wrap .i64 (isub n_6 (Int.ofNat 1))) fun n18 =>
 natI n18 fun m19 =>
 idxS l_0 c_0 m19 fun m20 =>
 k15 (ibeq (Int.ofNat m20) (Int.ofNat 108)) h7)
 (k15 false h7)) fun b17 h16 =>
 k12 b17 h16)
 (k12 true h7)) fun b14 h13 =>
 cnd b14
 (k (.tuple [(.bool false), (.bool false)]) h13)
 (J.a2 l_0 c_0 v_4 l_5 c_5 n_6 (Int.ofNat 108) h13))
 (J.a2 l_0 c_0 v_4 l_5 c_5 n_6 (Int.ofNat m4) h)))
 (J.a3 v_4 l_5 c_5 (Int.ofNat 0) h)
noncomputable def s28_2 (_c : Caller Prop FT) (_k : KV) (J : J28) (l_0 : Nat) (c_0 : Nat) (v_4 : AV) (l_5 : Nat) (c_5 : Nat) (n_6 : Int) (n_7 : Int) (h : H) : Prop :=
 oK (withElem env 37 (fun e ei => exBuildSlice 1 [(0, (.int .u8 n_7))] h e ei)) fun v21 h22 =>
 oK (convA env h22 37 9 v21) fun v23 h24 =>
 asS v23 fun l25 c26 =>
 catS l_5 c_5 l25 c26 fun l27 c28 =>
 fI (wrap .i64 (iadd n_6 (Int.ofNat 1))) fun n29 =>
 J.a1 l_0 c_0 v_4 l27 c28 n29 h24
noncomputable def s28_3 (_c : Caller Prop FT) (k : KV) (J : J28) (v_4 : AV) (l_5 : Nat) (c_5 : Nat) (n_8 : Int) (h : H) : Prop :=
 lenV v_4 fun m30 =>
 cnd (iblt n_8 (Int.ofNat m30))
 (natI n_8 fun m31 =>
 elemA 1 m31 v_4 fun v32 =>
 ld1 v32 h fun v33 =>
 asS v33 fun l34 c35 =>
 cnd (strEq l34 c35 l_5 c_5)
 (joinB (fun k36 => gate false (ibeq n_8 (Int.ofNat 1))
 (k36 (ibeq n_8 (Int.ofNat 3)) h)
 (k36 true h)) fun b38 h37 =>
 joinB (fun k39 => gate false b38
 (k39 (ibeq n_8 (Int.ofNat 4)) h37)
 (k39 true h37)) fun b41 h40 =>
 joinB (fun k42 => gate false b41
 (k42 (ible (Int.ofNat 6) n_8) h40)
 (k42 true h40)) fun b44 h43 =>
 k (.tuple [(.bool b44), (.bool true)]) h43)
 (fI (wrap .i64 (iadd n_8 (Int.ofNat 1))) fun n45 =>
 J.a3 v_4 l_5 c_5 n45 h))
 (k (.tuple [(.bool false), (.bool false)]) h)
noncomputable def z28 : J28 := ⟨fun _ _ _ => False, fun _ _ _ _ _ _ _ => False, fun _ _ _ _ _ _ _ _ => False, fun _ _ _ _ _ => False⟩
noncomputable def r28 (c : Caller Prop FT) (k : KV) (m : Nat) : J28 := Nat.rec z28 (fun _ J => ⟨s28_0 c k J, s28_1 c k J, s28_2 c k J, s28_3 c k J⟩) m
noncomputable def f28 (J : J28) : Jump := fun L f h => match L with
  | 0 => asS (f 0) fun l_0 c_0 => J.a0 l_0 c_0 h
  | 1 => asS (f 0) fun l_0 c_0 => asS (f 5) fun l_5 c_5 => asI .i64 (f 6) fun n_6 => J.a1 l_0 c_0 (f 4) l_5 c_5 n_6 h
  | 2 => asS (f 0) fun l_0 c_0 => asS (f 5) fun l_5 c_5 => asI .i64 (f 6) fun n_6 => asI .u8 (f 7) fun n_7 => J.a2 l_0 c_0 (f 4) l_5 c_5 n_6 n_7 h
  | 3 => asS (f 5) fun l_5 c_5 => asI .i64 (f 8) fun n_8 => J.a3 (f 4) l_5 c_5 n_8 h
  | _ => False
noncomputable def d28 : Code := Option.rec .skip (fun c => c) Go.Proofs.Tryd.f28.body
noncomputable def q28 : Plans := []
noncomputable def u28 : Cuts := [(.root, 0), ((.l (.r (.l (.r (.r (.r .root)))))), 1), ((.r (.r (.l (.l (.r (.l (.l (.r (.l (.r (.r (.r .root)))))))))))), 2), ((.l (.r (.l (.r (.r (.r (.r .root))))))), 3)]
/- oxbow/pnum.Letters -/
structure J29 where
  a0 : Nat → Nat → H → Prop
  a1 : Nat → Nat → AV → Int → Int → H → Prop
noncomputable def s29_0 (_c : Caller Prop FT) (_k : KV) (J : J29) (l_0 : Nat) (c_0 : Nat) (h : H) : Prop :=
 oK (withElem env 35 (fun e ei => exBuildSlice 5 [(0, (.str 0 0)), (1, (.str 1 76)), (2, (.str 1 117)), (3, (.str 1 85)), (4, (.str 2 14453))] h e ei)) fun v1 h2 =>
 lenV v1 fun m3 =>
 J.a1 l_0 c_0 v1 (Int.ofNat m3) (Int.ofNat 0) h2
noncomputable def s29_1 (c : Caller Prop FT) (k : KV) (J : J29) (l_0 : Nat) (c_0 : Nat) (v_8 : AV) (n_9 : Int) (n_10 : Int) (h : H) : Prop :=
 cnd (iblt n_10 n_9)
 (natI n_10 fun m4 =>
 elemA 1 m4 v_8 fun v5 =>
 ld1 v5 h fun v6 =>
 asS v6 fun l7 c8 =>
 c (.func 45) [(.str l_0 c_0), (.str l7 c8)] h fun v9 h10 =>
 ext 0 v9 fun v11 =>
 asS v11 fun l12 c13 =>
 ext 1 v9 fun v14 =>
 asB v14 fun b15 =>
 joinB (fun k16 => gate true b15
 (k16 (bnot (strEq l12 c13 0 0)) h10)
 (k16 false h10)) fun b18 h17 =>
 joinB (fun k19 => gate true b18
 (idxS l12 c13 0 fun m22 =>
 joinB (fun k23 => gate false (ibeq (Int.ofNat m22) (Int.ofNat 34))
 (idxS l12 c13 0 fun m26 =>
 k23 (ibeq (Int.ofNat m26) (Int.ofNat 39)) h17)
 (k23 true h17)) fun b25 h24 =>
 k19 b25 h24)
 (k19 false h17)) fun b21 h20 =>
 cnd b21
 (k (.tuple [(.str l7 c8), (.bool true)]) h20)
 (fI (wrap .i64 (iadd n_10 (Int.ofNat 1))) fun n27 =>
 J.a1 l_0 c_0 v_8 n_9 n27 h20))
 (k (.tuple [(.str 0 0), (.bool false)]) h)
noncomputable def z29 : J29 := ⟨fun _ _ _ => False, fun _ _ _ _ _ _ => False⟩
noncomputable def r29 (c : Caller Prop FT) (k : KV) (m : Nat) : J29 := Nat.rec z29 (fun _ J => ⟨s29_0 c k J, s29_1 c k J⟩) m
noncomputable def f29 (J : J29) : Jump := fun L f h => match L with
  | 0 => asS (f 0) fun l_0 c_0 => J.a0 l_0 c_0 h
  | 1 => asS (f 0) fun l_0 c_0 => asI .i64 (f 9) fun n_9 => asI .i64 (f 10) fun n_10 => J.a1 l_0 c_0 (f 8) n_9 n_10 h
  | _ => False
noncomputable def d29 : Code := Option.rec .skip (fun c => c) Go.Proofs.Tryd.f29.body
noncomputable def q29 : Plans := []
noncomputable def u29 : Cuts := [(.root, 0), ((.l (.r (.l (.r .root)))), 1)]
/- oxbow/oxbowref9.letters -/
structure J30 where
  a0 : Nat → Nat → H → Prop
  a1 : Nat → Nat → AV → Int → H → Prop
noncomputable def s30_0 (_c : Caller Prop FT) (_k : KV) (J : J30) (l_0 : Nat) (c_0 : Nat) (h : H) : Prop :=
 oK (withElem env 37 (fun e ei => exBuildSlice 2 [(0, (.int .u8 (Int.ofNat 39))), (1, (.int .u8 (Int.ofNat 34)))] h e ei)) fun v1 h2 =>
 J.a1 l_0 c_0 v1 (Int.ofNat 0) h2
noncomputable def s30_1 (c : Caller Prop FT) (k : KV) (J : J30) (l_0 : Nat) (c_0 : Nat) (v_5 : AV) (n_6 : Int) (h : H) : Prop :=
 cnd (iblt n_6 (Int.ofNat 2))
 (natI n_6 fun m3 =>
 elemA 1 m3 v_5 fun v4 =>
 ld1 v4 h fun v5 =>
 asI .u8 v5 fun n6 =>
 c (.func 46) [(.str l_0 c_0), (.int .u8 n6)] h fun v7 h8 =>
 asI .i64 v7 fun n9 =>
 cnd (ible (Int.ofNat 0) n9)
 (natI n9 fun m10 =>
 cutS l_0 c_0 0 m10 fun l11 c12 =>
 natI n_6 fun m13 =>
 elemA 1 m13 v_5 fun v14 =>
 ld1 v14 h8 fun v15 =>
 asI .u8 v15 fun n16 =>
 k (.tuple [(.str l11 c12), (.int .u8 n16), (.bool true)]) h8)
 (fI (wrap .i64 (iadd n_6 (Int.ofNat 1))) fun n17 =>
 J.a1 l_0 c_0 v_5 n17 h8))
 (k (.tuple [(.str 0 0), (.int .u8 (Int.ofNat 0)), (.bool false)]) h)
noncomputable def z30 : J30 := ⟨fun _ _ _ => False, fun _ _ _ _ _ => False⟩
noncomputable def r30 (c : Caller Prop FT) (k : KV) (m : Nat) : J30 := Nat.rec z30 (fun _ J => ⟨s30_0 c k J, s30_1 c k J⟩) m
noncomputable def f30 (J : J30) : Jump := fun L f h => match L with
  | 0 => asS (f 0) fun l_0 c_0 => J.a0 l_0 c_0 h
  | 1 => asS (f 0) fun l_0 c_0 => asI .i64 (f 6) fun n_6 => J.a1 l_0 c_0 (f 5) n_6 h
  | _ => False
noncomputable def d30 : Code := Option.rec .skip (fun c => c) Go.Proofs.Tryd.f30.body
noncomputable def q30 : Plans := [(7, [0, 1, 2, 3, 4, 5, 6, 7, 8, 9])]
noncomputable def u30 : Cuts := [(.root, 0), ((.l (.r (.l (.r (.r .root))))), 1)]
/- (*strings.Builder).String -/
structure J31 where
  a0 : AV → H → Prop
noncomputable def s31_0 (_c : Caller Prop FT) (k : KV) (_J : J31) (v_0 : AV) (h : H) : Prop :=
 oK (exNil v_0 h) fun v1 h2 =>
 fAddr 1 v1 fun v3 =>
 ld1 v3 h2 fun v4 =>
 oK (builtinA env .unsafeSliceData [37] [v4] h2) fun v5 h6 =>
 oK (exNil v_0 h6) fun v7 h8 =>
 fAddr 1 v7 fun v9 =>
 ld1 v9 h8 fun v10 =>
 lenV v10 fun m11 =>
 oK (builtinA env .unsafeString [76, 3] [v5, (.int .i64 (Int.ofNat m11))] h8) fun v12 h13 =>
 asS v12 fun l14 c15 =>
 k (.str l14 c15) h13
noncomputable def z31 : J31 := ⟨fun _ _ => False⟩
noncomputable def r31 (c : Caller Prop FT) (k : KV) (m : Nat) : J31 := Nat.rec z31 (fun _ J => ⟨s31_0 c k J⟩) m
noncomputable def f31 (J : J31) : Jump := fun L f h => match L with
  | 0 => J.a0 (f 0) h
  | _ => False
noncomputable def d31 : Code := Option.rec .skip (fun c => c) Go.Proofs.Tryd.f31.body
noncomputable def q31 : Plans := [(1, [0, 1, 2, 3, 4, 5, 6, 7, 8, 9, 10, 11])]
noncomputable def u31 : Cuts := [(.root, 0)]
/- (*strings.Builder).WriteByte -/
structure J32 where
  a0 : AV → Int → H → Prop
noncomputable def s32_0 (c : Caller Prop FT) (k : KV) (_J : J32) (v_0 : AV) (n_1 : Int) (h : H) : Prop :=
 c (.func 47) [v_0] h fun _ h2 =>
 oK (exNil v_0 h2) fun v3 h4 =>
 fAddr 1 v3 fun v5 =>
 ld1 v5 h4 fun v6 =>
 oK (withElem env 37 (fun e ei => exBuildSlice 1 [(0, (.int .u8 n_1))] h4 e ei)) fun v7 h8 =>
 oK (builtinA env .append [37, 37] [v6, v7] h8) fun v9 h10 =>
 oK (exNil v_0 h10) fun v11 h12 =>
 fAddr 1 v11 fun v13 =>
 st1 v13 v9 h12 fun h14 =>
 k .nili h14
noncomputable def z32 : J32 := ⟨fun _ _ _ => False⟩
noncomputable def r32 (c : Caller Prop FT) (k : KV) (m : Nat) : J32 := Nat.rec z32 (fun _ J => ⟨s32_0 c k J⟩) m
noncomputable def f32 (J : J32) : Jump := fun L f h => match L with
  | 0 => asI .u8 (f 1) fun n_1 => J.a0 (f 0) n_1 h
  | _ => False
noncomputable def d32 : Code := Option.rec .skip (fun c => c) Go.Proofs.Tryd.f32.body
noncomputable def q32 : Plans := []
noncomputable def u32 : Cuts := [(.root, 0)]
/- oxbow/pnum.escape -/
structure J33 where
  a0 : Nat → Nat → H → Prop
  a1 : Int → Int → Int → AV → H → Prop
  a2 : Nat → Nat → Int → Int → Int → H → Prop
noncomputable def s33_0 (c : Caller Prop FT) (k : KV) (J : J33) (l_0 : Nat) (c_0 : Nat) (h : H) : Prop :=
 cnd (strEq l_0 c_0 0 0)
 (k (.tuple [(.int .u8 (Int.ofNat 0)), (.int .i64 (Int.ofNat 0))]) h)
 (idxS l_0 c_0 0 fun m1 =>
 c (.func 48) [(.str 11 143203152110517486444552743), (.int .u8 (Int.ofNat m1))] h fun v2 h3 =>
 asI .i64 v2 fun n4 =>
 cnd (ible (Int.ofNat 0) n4)
 (natI n4 fun m5 =>
 idxS 11 13340925845742173758104103 m5 fun m6 =>
 k (.tuple [(.int .u8 (Int.ofNat m6)), (.int .i64 (Int.ofNat 1))]) h3)
 (c (.func 24) [(.str l_0 c_0), (.str 8 3978425819141910832)] h3 fun v7 h8 =>
 asI .i64 v7 fun n9 =>
 oK (builtinA env .min [3, 3] [(.int .i64 n9), (.int .i64 (Int.ofNat 3))] h8) fun v10 h11 =>
 asI .i64 v10 fun n12 =>
 idxS l_0 c_0 0 fun m13 =>
 cnd (ibeq (Int.ofNat m13) (Int.ofNat 120))
 (cutS l_0 c_0 1 l_0 fun l14 c15 =>
 c (.func 24) [(.str l14 c15), (.str 22 26291342665239622251265189840170011249128153612955952)] h11 fun v16 h17 =>
 asI .i64 v16 fun n18 =>
 fI (wrap .i64 (iadd (Int.ofNat 1) n18)) fun n19 =>
 J.a2 l_0 c_0 n19 (Int.ofNat 16) (Int.ofNat 1) h17)
 (J.a2 l_0 c_0 n12 (Int.ofNat 8) (Int.ofNat 0) h11)))
noncomputable def s33_1 (c : Caller Prop FT) (k : KV) (J : J33) (n_5 : Int) (n_6 : Int) (n_8 : Int) (v_38 : AV) (h : H) : Prop :=
 oK (exNext v_38 true h) fun v20 h21 =>
 ext 0 v20 fun v22 =>
 asB v22 fun b23 =>
 cnd b23
 (ext 2 v20 fun v24 =>
 asI .i32 v24 fun n25 =>
 fI (wrap .i64 (n_8 * n_6)) fun n26 =>
 c (.func 50) [(.str 22 26291342665239622251265189840170011249128153612955952), (.int .i32 n25)] h21 fun v27 h28 =>
 asI .i64 v27 fun n29 =>
 fI (wrap .i64 (iadd n26 n29)) fun n30 =>
 bitI Nat.land .i64 n30 (Int.ofNat 4095) fun n31 =>
 J.a1 n_5 n_6 n31 v_38 h28)
 (fI (wrap .u8 n_8) fun n32 =>
 k (.tuple [(.int .u8 n32), (.int .i64 n_5)]) h21)
noncomputable def s33_2 (c : Caller Prop FT) (k : KV) (J : J33) (l_0 : Nat) (c_0 : Nat) (n_5 : Int) (n_6 : Int) (n_7 : Int) (h : H) : Prop :=
 cnd (ible n_5 n_7)
 (k (.tuple [(.int .u8 (Int.ofNat 0)), (.int .i64 (Int.ofNat 0))]) h)
 (natI n_5 fun m33 =>
 natI n_7 fun m34 =>
 cutS l_0 c_0 m34 m33 fun l35 c36 =>
 c (.func 49) [(.str l35 c36)] h fun v37 h38 =>
 asS v37 fun l39 c40 =>
 oK (exRange env 9 (.str l39 c40) h38) fun v41 h42 =>
 J.a1 n_5 n_6 (Int.ofNat 0) v41 h42)
noncomputable def z33 : J33 := ⟨fun _ _ _ => False, fun _ _ _ _ _ => False, fun _ _ _ _ _ _ => False⟩
noncomputable def r33 (c : Caller Prop FT) (k : KV) (m : Nat) : J33 := Nat.rec z33 (fun _ J => ⟨s33_0 c k J, s33_1 c k J, s33_2 c k J⟩) m
noncomputable def f33 (J : J33) : Jump := fun L f h => match L with
  | 0 => asS (f 0) fun l_0 c_0 => J.a0 l_0 c_0 h
  | 1 => asI .i64 (f 5) fun n_5 => asI .i64 (f 6) fun n_6 => asI .i64 (f 8) fun n_8 => J.a1 n_5 n_6 n_8 (f 38) h
  | 2 => asS (f 0) fun l_0 c_0 => asI .i64 (f 5) fun n_5 => asI .i64 (f 6) fun n_6 => asI .i64 (f 7) fun n_7 => J.a2 l_0 c_0 n_5 n_6 n_7 h
  | _ => False
noncomputable def d33 : Code := Option.rec .skip (fun c => c) Go.Proofs.Tryd.f33.body
noncomputable def q33 : Plans := []
noncomputable def u33 : Cuts := [(.root, 0), ((.l (.r (.l (.r (.r (.r (.r (.r (.r (.r .root)))))))))), 1), ((.r (.r (.r (.r (.r .root))))), 2)]
/- oxbow/oxbowref9.escape -/
structure J34 where
  a0 : Nat → Nat → H → Prop
  a1 : Nat → Nat → Int → H → Prop
  a2 : Nat → Nat → Int → Int → Int → Int → Int → H → Prop
  a3 : Nat → Nat → Int → Int → Int → Int → H → Prop
noncomputable def s34_0 (_c : Caller Prop FT) (_k : KV) (J : J34) (l_0 : Nat) (c_0 : Nat) (h : H) : Prop :=
 J.a1 l_0 c_0 (Int.ofNat 0) h
noncomputable def s34_1 (c : Caller Prop FT) (k : KV) (J : J34) (l_0 : Nat) (c_0 : Nat) (n_4 : Int) (h : H) : Prop :=
 cnd (iblt n_4 (Int.ofNat 11))
 (joinB (fun k1 => gate true (iblt (Int.ofNat 0) (Int.ofNat l_0))
 (idxS l_0 c_0 0 fun m4 =>
 natI n_4 fun m5 =>
 idxS 11 143203152110517486444552743 m5 fun m6 =>
 k1 (ibeq (Int.ofNat m4) (Int.ofNat m6)) h)
 (k1 false h)) fun b3 h2 =>
 cnd b3
 (natI n_4 fun m7 =>
 idxS 11 13340925845742173758104103 m7 fun m8 =>
 k (.tuple [(.int .u8 (Int.ofNat m8)), (.int .i64 (Int.ofNat 1))]) h2)
 (fI (wrap .i64 (iadd n_4 (Int.ofNat 1))) fun n9 =>
 J.a1 l_0 c_0 n9 h2))
 (c (.func 26) [(.str l_0 c_0), (.int .i64 (Int.ofNat 0)), (.int .i64 (Int.ofNat 8))] h fun v10 h11 =>
 asI .i64 v10 fun n12 =>
 oK (builtinA env .min [3, 3] [(.int .i64 n12), (.int .i64 (Int.ofNat 3))] h11) fun v13 h14 =>
 asI .i64 v13 fun n15 =>
 joinB (fun k16 => gate true (iblt (Int.ofNat 0) (Int.ofNat l_0))
 (idxS l_0 c_0 0 fun m19 =>
 k16 (ibeq (Int.ofNat m19) (Int.ofNat 120)) h14)
 (k16 false h14)) fun b18 h17 =>
 cnd b18
 (c (.func 26) [(.str l_0 c_0), (.int .i64 (Int.ofNat 1)), (.int .i64 (Int.ofNat 16))] h17 fun v20 h21 =>
 asI .i64 v20 fun n22 =>
 J.a3 l_0 c_0 (Int.ofNat 0) n22 (Int.ofNat 16) (Int.ofNat 1) h21)
 (J.a3 l_0 c_0 (Int.ofNat 0) n15 (Int.ofNat 8) (Int.ofNat 0) h17))
noncomputable def s34_2 (c : Caller Prop FT) (k : KV) (J : J34) (l_0 : Nat) (c_0 : Nat) (n_5 : Int) (n_6 : Int) (n_7 : Int) (n_8 : Int) (n_9 : Int) (h : H) : Prop :=
 fI (wrap .i64 (iadd n_8 n_6)) fun n23 =>
 cnd (iblt n_9 n23)
 (fI (wrap .i64 (n_5 * n_7)) fun n24 =>
 natI n_9 fun m25 =>
 idxS l_0 c_0 m25 fun m26 =>
 c (.func 27) [(.int .u8 (Int.ofNat m26))] h fun v27 h28 =>
 asI .i64 v27 fun n29 =>
 fI (wrap .i64 (iadd n24 n29)) fun n30 =>
 remI n30 (Int.ofNat 256) fun n31 =>
 fI (wrap .i64 (iadd n_9 (Int.ofNat 1))) fun n32 =>
 J.a2 l_0 c_0 n31 n_6 n_7 n_8 n32 h28)
 (fI (wrap .u8 n_5) fun n33 =>
 fI (wrap .i64 (iadd n_8 n_6)) fun n34 =>
 k (.tuple [(.int .u8 n33), (.int .i64 n34)]) h)
noncomputable def s34_3 (_c : Caller Prop FT) (k : KV) (J : J34) (l_0 : Nat) (c_0 : Nat) (n_5 : Int) (n_6 : Int) (n_7 : Int) (n_8 : Int) (h : H) : Prop :=
 cnd (ibeq n_6 (Int.ofNat 0))
 (k (.tuple [(.int .u8 (Int.ofNat 0)), (.int .i64 (Int.ofNat 0))]) h)
 (J.a2 l_0 c_0 n_5 n_6 n_7 n_8 n_8 h)
noncomputable def z34 : J34 := ⟨fun _ _ _ => False, fun _ _ _ _ => False, fun _ _ _ _ _ _ _ _ => False, fun _ _ _ _ _ _ _ => False⟩
noncomputable def r34 (c : Caller Prop FT) (k : KV) (m : Nat) : J34 := Nat.rec z34 (fun _ J => ⟨s34_0 c k J, s34_1 c k J, s34_2 c k J, s34_3 c k J⟩) m
noncomputable def f34 (J : J34) : Jump := fun L f h => match L with
  | 0 => asS (f 0) fun l_0 c_0 => J.a0 l_0 c_0 h
  | 1 => asS (f 0) fun l_0 c_0 => asI .i64 (f 4) fun n_4 => J.a1 l_0 c_0 n_4 h
  | 2 => asS (f 0) fun l_0 c_0 => asI .i64 (f 5) fun n_5 => asI .i64 (f 6) fun n_6 => asI .i64 (f 7) fun n_7 => asI .i64 (f 8) fun n_8 => asI .i64 (f 9) fun n_9 => J.a2 l_0 c_0 n_5 n_6 n_7 n_8 n_9 h
  | 3 => asS (f 0) fun l_0 c_0 => asI .i64 (f 5) fun n_5 => asI .i64 (f 6) fun n_6 => asI .i64 (f 7) fun n_7 => asI .i64 (f 8) fun n_8 => J.a3 l_0 c_0 n_5 n_6 n_7 n_8 h
  | _ => False
noncomputable def d34 : Code := Option.rec .skip (fun c => c) Go.Proofs.Tryd.f34.body
noncomputable def q34 : Plans := [(4, [0, 1, 2, 3, 4, 5, 6, 7, 8, 9])]
noncomputable def u34 : Cuts := [(.root, 0), ((.l (.r (.l (.r .root)))), 1), ((.l (.r (.l (.r (.r (.r (.r (.r (.r (.r .root)))))))))), 2), ((.r (.r (.r (.r (.r (.r .root)))))), 3)]
/- oxbow/pnum.exponent -/
structure J35 where
  a0 : Nat → Nat → Nat → Nat → H → Prop
  a1 : Nat → Nat → Nat → Nat → H → Prop
noncomputable def s35_0 (c : Caller Prop FT) (k : KV) (J : J35) (l_0 : Nat) (c_0 : Nat) (l_1 : Nat) (c_1 : Nat) (h : H) : Prop :=
 joinB (fun k1 => gate false (strEq l_0 c_0 0 0)
 (idxS l_0 c_0 0 fun m4 =>
 c (.func 48) [(.str l_1 c_1), (.int .u8 (Int.ofNat m4))] h fun v5 h6 =>
 asI .i64 v5 fun n7 =>
 k1 (iblt n7 (Int.ofNat 0)) h6)
 (k1 true h)) fun b3 h2 =>
 cnd b3
 (k (.tuple [(.str l_0 c_0), (.bool false)]) h2)
 (cutS l_0 c_0 1 l_0 fun l8 c9 =>
 joinB (fun k10 => gate true (bnot (strEq l8 c9 0 0))
 (idxS l8 c9 0 fun m13 =>
 joinB (fun k14 => gate false (ibeq (Int.ofNat m13) (Int.ofNat 43))
 (idxS l8 c9 0 fun m17 =>
 k14 (ibeq (Int.ofNat m17) (Int.ofNat 45)) h2)
 (k14 true h2)) fun b16 h15 =>
 k10 b16 h15)
 (k10 false h2)) fun b12 h11 =>
 cnd b12
 (cutS l8 c9 1 l8 fun l18 c19 =>
 J.a1 l_0 c_0 l18 c19 h11)
 (J.a1 l_0 c_0 l8 c9 h11))
noncomputable def s35_1 (c : Caller Prop FT) (k : KV) (_J : J35) (l_0 : Nat) (c_0 : Nat) (l_6 : Nat) (c_6 : Nat) (h : H) : Prop :=
 c (.func 24) [(.str l_6 c_6), (.str 10 270211885617516653982000)] h fun v20 h21 =>
 asI .i64 v20 fun n22 =>
 cnd (ibeq n22 (Int.ofNat 0))
 (k (.tuple [(.str l_0 c_0), (.bool false)]) h21)
 (natI n22 fun m23 =>
 cutS l_6 c_6 m23 l_6 fun l24 c25 =>
 k (.tuple [(.str l24 c25), (.bool true)]) h21)
noncomputable def z35 : J35 := ⟨fun _ _ _ _ _ => False, fun _ _ _ _ _ => False⟩
noncomputable def r35 (c : Caller Prop FT) (k : KV) (m : Nat) : J35 := Nat.rec z35 (fun _ J => ⟨s35_0 c k J, s35_1 c k J⟩) m
noncomputable def f35 (J : J35) : Jump := fun L f h => match L with
  | 0 => asS (f 0) fun l_0 c_0 => asS (f 1) fun l_1 c_1 => J.a0 l_0 c_0 l_1 c_1 h
  | 1 => asS (f 0) fun l_0 c_0 => asS (f 6) fun l_6 c_6 => J.a1 l_0 c_0 l_6 c_6 h
  | _ => False
noncomputable def d35 : Code := Option.rec .skip (fun c => c) Go.Proofs.Tryd.f35.body
noncomputable def q35 : Plans := []
noncomputable def u35 : Cuts := [(.root, 0), ((.r (.r (.r (.r .root)))), 1)]
/- oxbow/oxbowref9.exponent -/
structure J36 where
  a0 : Nat → Nat → Int → H → Prop
  a1 : Nat → Nat → Int → H → Prop
noncomputable def s36_0 (_c : Caller Prop FT) (_k : KV) (J : J36) (l_0 : Nat) (c_0 : Nat) (n_1 : Int) (h : H) : Prop :=
 joinB (fun k1 => gate true (iblt n_1 (Int.ofNat l_0))
 (natI n_1 fun m4 =>
 idxS l_0 c_0 m4 fun m5 =>
 joinB (fun k6 => gate false (ibeq (Int.ofNat m5) (Int.ofNat 43))
 (natI n_1 fun m9 =>
 idxS l_0 c_0 m9 fun m10 =>
 k6 (ibeq (Int.ofNat m10) (Int.ofNat 45)) h)
 (k6 true h)) fun b8 h7 =>
 k1 b8 h7)
 (k1 false h)) fun b3 h2 =>
 cnd b3
 (fI (wrap .i64 (iadd n_1 (Int.ofNat 1))) fun n11 =>
 J.a1 l_0 c_0 n11 h2)
 (J.a1 l_0 c_0 n_1 h2)
noncomputable def s36_1 (c : Caller Prop FT) (k : KV) (_J : J36) (l_0 : Nat) (c_0 : Nat) (n_1 : Int) (h : H) : Prop :=
 c (.func 26) [(.str l_0 c_0), (.int .i64 n_1), (.int .i64 (Int.ofNat 10))] h fun v12 h13 =>
 asI .i64 v12 fun n14 =>
 fI (wrap .i64 (iadd n_1 n14)) fun n15 =>
 k (.tuple [(.int .i64 n15), (.bool (iblt (Int.ofNat 0) n14))]) h13
noncomputable def z36 : J36 := ⟨fun _ _ _ _ => False, fun _ _ _ _ => False⟩
noncomputable def r36 (c : Caller Prop FT) (k : KV) (m : Nat) : J36 := Nat.rec z36 (fun _ J => ⟨s36_0 c k J, s36_1 c k J⟩) m
noncomputable def f36 (J : J36) : Jump := fun L f h => match L with
  | 0 => asS (f 0) fun l_0 c_0 => asI .i64 (f 1) fun n_1 => J.a0 l_0 c_0 n_1 h
  | 1 => asS (f 0) fun l_0 c_0 => asI .i64 (f 1) fun n_1 => J.a1 l_0 c_0 n_1 h
  | _ => False
noncomputable def d36 : Code := Option.rec .skip (fun c => c) Go.Proofs.Tryd.f36.body
noncomputable def q36 : Plans := []
noncomputable def u36 : Cuts := [(.root, 0), ((.r (.r .root)), 1)]
/- strings.trimRightByte -/
structure J37 where
  a0 : Nat → Nat → Int → H → Prop
  a1 : Nat → Nat → Int → H → Prop
noncomputable def s37_0 (_c : Caller Prop FT) (_k : KV) (J : J37) (l_0 : Nat) (c_0 : Nat) (n_1 : Int) (h : H) : Prop :=
 J.a1 l_0 c_0 n_1 h
noncomputable def s37_1 (_c : Caller Prop FT) (k : KV) (J : J37) (l_0 : Nat) (c_0 : Nat) (n_1 : Int) (h : H) : Prop :=
 joinB (fun k1 => gate true (iblt (Int.ofNat 0) (Int.ofNat l_0))
 (fI (wrap .i64 (isub (Int.ofNat l_0) (Int.ofNat 1))) fun n4 =>
 natI n4 fun m5 =>
 idxS l_0 c_0 m5 fun m6 =>
 k1 (ibeq (Int.ofNat m6) n_1) h)
 (k1 false h)) fun b3 h2 =>
 cnd b3
 (fI (wrap .i64 (isub (Int.ofNat l_0) (Int.ofNat 1))) fun n7 =>
 natI n7 fun m8 =>
 cutS l_0 c_0 0 m8 fun l9 c10 =>
 J.a1 l9 c10 n_1 h2)
 (k (.str l_0 c_0) h2)
noncomputable def z37 : J37 := ⟨fun _ _ _ _ => False, fun _ _ _ _ => False⟩
noncomputable def r37 (c : Caller Prop FT) (k : KV) (m : Nat) : J37 := Nat.rec z37 (fun _ J => ⟨s37_0 c k J, s37_1 c k J⟩) m
noncomputable def f37 (J : J37) : Jump := fun L f h => match L with
  | 0 => asS (f 0) fun l_0 c_0 => asI .u8 (f 1) fun n_1 => J.a0 l_0 c_0 n_1 h
  | 1 => asS (f 0) fun l_0 c_0 => asI .u8 (f 1) fun n_1 => J.a1 l_0 c_0 n_1 h
  | _ => False
noncomputable def d37 : Code := Option.rec .skip (fun c => c) Go.Proofs.Tryd.f37.body
noncomputable def q37 : Plans := []
noncomputable def u37 : Cuts := [(.root, 0), ((.l (.l (.r .root))), 1)]
/- strings.makeASCIISet -/
structure J38 where
  a0 : Nat → Nat → H → Prop
  a1 : Nat → Nat → AV → Int → H → Prop
noncomputable def s38_0 (_c : Caller Prop FT) (_k : KV) (J : J38) (l_0 : Nat) (c_0 : Nat) (h : H) : Prop :=
 Hp.newK h ob69 fun p1 h2 =>
 J.a1 l_0 c_0 (.ptr p1 0) (Int.ofNat 0) h2
noncomputable def s38_1 (_c : Caller Prop FT) (k : KV) (J : J38) (l_0 : Nat) (c_0 : Nat) (v_2 : AV) (n_4 : Int) (h : H) : Prop :=
 cnd (iblt n_4 (Int.ofNat l_0))
 (natI n_4 fun m3 =>
 idxS l_0 c_0 m3 fun m4 =>
 cnd (ible (Int.ofNat 128) (Int.ofNat m4))
 (ldn 256 v_2 h fun v5 =>
 stn 256 v_2 v5 h fun h6 =>
 ldn 256 v_2 h6 fun v7 =>
 k (.tuple [v7, (.bool false)]) h6)
 (oK (exIndexAddr env 69 v_2 (natOf (.int .u8 (Int.ofNat m4))) h) fun v8 h9 =>
 st1 v8 (.bool true) h9 fun h10 =>
 fI (wrap .i64 (iadd n_4 (Int.ofNat 1))) fun n11 =>
 J.a1 l_0 c_0 v_2 n11 h10))
 (ldn 256 v_2 h fun v12 =>
 stn 256 v_2 v12 h fun h13 =>
 ldn 256 v_2 h13 fun v14 =>
 k (.tuple [v14, (.bool true)]) h13)
noncomputable def z38 : J38 := ⟨fun _ _ _ => False, fun _ _ _ _ _ => False⟩
noncomputable def r38 (c : Caller Prop FT) (k : KV) (m : Nat) : J38 := Nat.rec z38 (fun _ J => ⟨s38_0 c k J, s38_1 c k J⟩) m
noncomputable def f38 (J : J38) : Jump := fun L f h => match L with
  | 0 => asS (f 0) fun l_0 c_0 => J.a0 l_0 c_0 h
  | 1 => asS (f 0) fun l_0 c_0 => asI .i64 (f 4) fun n_4 => J.a1 l_0 c_0 (f 2) n_4 h
  | _ => False
noncomputable def d38 : Code := Option.rec .skip (fun c => c) Go.Proofs.Tryd.f38.body
noncomputable def q38 : Plans := []
noncomputable def u38 : Cuts := [(.root, 0), ((.l (.r (.l (.r .root)))), 1)]
/- strings.trimRightASCII -/
structure J39 where
  a0 : Nat → Nat → AV → H → Prop
  a1 : Nat → Nat → AV → H → Prop
noncomputable def s39_0 (_c : Caller Prop FT) (_k : KV) (J : J39) (l_0 : Nat) (c_0 : Nat) (v_1 : AV) (h : H) : Prop :=
 J.a1 l_0 c_0 v_1 h
noncomputable def s39_1 (c : Caller Prop FT) (k : KV) (J : J39) (l_0 : Nat) (c_0 : Nat) (v_1 : AV) (h : H) : Prop :=
 cnd (iblt (Int.ofNat 0) (Int.ofNat l_0))
 (fI (wrap .i64 (isub (Int.ofNat l_0) (Int.ofNat 1))) fun n1 =>
 natI n1 fun m2 =>
 idxS l_0 c_0 m2 fun m3 =>
 c (.func 51) [v_1, (.int .u8 (Int.ofNat m3))] h fun v4 h5 =>
 asB v4 fun b6 =>
 cnd (bnot b6)
 (k (.str l_0 c_0) h5)
 (fI (wrap .i64 (isub (Int.ofNat l_0) (Int.ofNat 1))) fun n7 =>
 natI n7 fun m8 =>
 cutS l_0 c_0 0 m8 fun l9 c10 =>
 J.a1 l9 c10 v_1 h5))
 (k (.str l_0 c_0) h)
noncomputable def z39 : J39 := ⟨fun _ _ _ _ => False, fun _ _ _ _ => False⟩
noncomputable def r39 (c : Caller Prop FT) (k : KV) (m : Nat) : J39 := Nat.rec z39 (fun _ J => ⟨s39_0 c k J, s39_1 c k J⟩) m
noncomputable def f39 (J : J39) : Jump := fun L f h => match L with
  | 0 => asS (f 0) fun l_0 c_0 => J.a0 l_0 c_0 (f 1) h
  | 1 => asS (f 0) fun l_0 c_0 => J.a1 l_0 c_0 (f 1) h
  | _ => False
noncomputable def d39 : Code := Option.rec .skip (fun c => c) Go.Proofs.Tryd.f39.body
noncomputable def q39 : Plans := []
noncomputable def u39 : Cuts := [(.root, 0), ((.l (.l (.r .root))), 1)]
/- strings.trimRightUnicode -/
structure J41 where
  a0 : Nat → Nat → Nat → Nat → H → Prop
noncomputable def s41_0 (_c : Caller Prop FT) (k : KV) (_J : J41) (l_0 : Nat) (c_0 : Nat) (l_1 : Nat) (c_1 : Nat) (h : H) : Prop :=
 joinB (fun k1 => gate true (ible (Int.ofNat l_1) (Int.ofNat l_0))
 (cutS l_0 c_0 0 l_1 fun l4 c5 =>
 k1 (strEq l4 c5 l_1 c_1) h)
 (k1 false h)) fun b3 h2 =>
 k (.bool b3) h2
noncomputable def z41 : J41 := ⟨fun _ _ _ _ _ => False⟩
noncomputable def r41 (c : Caller Prop FT) (k : KV) (m : Nat) : J41 := Nat.rec z41 (fun _ J => ⟨s41_0 c k J⟩) m
noncomputable def f41 (J : J41) : Jump := fun L f h => match L with
  | 0 => asS (f 0) fun l_0 c_0 => asS (f 1) fun l_1 c_1 => J.a0 l_0 c_0 l_1 c_1 h
  | _ => False
noncomputable def d41 : Code := Option.rec .skip (fun c => c) Go.Proofs.Tryd.f41.body
noncomputable def q41 : Plans := []
noncomputable def u41 : Cuts := [(.root, 0)]
/- strings.TrimLeft -/
structure J42 where
  a0 : Nat → Nat → Nat → Nat → H → Prop
noncomputable def s42_0 (c : Caller Prop FT) (k : KV) (_J : J42) (l_0 : Nat) (c_0 : Nat) (l_1 : Nat) (c_1 : Nat) (h : H) : Prop :=
 joinB (fun k1 => gate false (strEq l_0 c_0 0 0)
 (k1 (strEq l_1 c_1 0 0) h)
 (k1 true h)) fun b3 h2 =>
 cnd b3
 (k (.str l_0 c_0) h2)
 (joinB (fun k4 => gate true (ibeq (Int.ofNat l_1) (Int.ofNat 1))
 (idxS l_1 c_1 0 fun m7 =>
 k4 (iblt (Int.ofNat m7) (Int.ofNat 128)) h2)
 (k4 false h2)) fun b6 h5 =>
 cnd b6
 (idxS l_1 c_1 0 fun m8 =>
 c (.func 54) [(.str l_0 c_0), (.int .u8 (Int.ofNat m8))] h5 fun v9 h10 =>
 asS v9 fun l11 c12 =>
 k (.str l11 c12) h10)
 (c (.func 38) [(.str l_1 c_1)] h5 fun v13 h14 =>
 ext 0 v13 fun v15 =>
 ext 1 v13 fun v16 =>
 asB v16 fun b17 =>
 Hp.newK h14 ob69 fun p18 h19 =>
 stn 256 (.ptr p18 0) v15 h19 fun h20 =>
 cnd b17
 (c (.func 55) [(.str l_0 c_0), (.ptr p18 0)] h20 fun v21 h22 =>
 asS v21 fun l23 c24 =>
 k (.str l23 c24) h22)
 (c (.func 56) [(.str l_0 c_0), (.str l_1 c_1)] h20 fun v25 h26 =>
 asS v25 fun l27 c28 =>
 k (.str l27 c28) h26)))
noncomputable def z42 : J42 := ⟨fun _ _ _ _ _ => False⟩
noncomputable def r42 (c : Caller Prop FT) (k : KV) (m : Nat) : J42 := Nat.rec z42 (fun _ J => ⟨s42_0 c k J⟩) m
noncomputable def f42 (J : J42) : Jump := fun L f h => match L with
  | 0 => asS (f 0) fun l_0 c_0 => asS (f 1) fun l_1 c_1 => J.a0 l_0 c_0 l_1 c_1 h
  | _ => False
noncomputable def d42 : Code := Option.rec .skip (fun c => c) Go.Proofs.Tryd.f42.body
noncomputable def q42 : Plans := []
noncomputable def u42 : Cuts := [(.root, 0)]
/- internal/strconv.ParseUint -/
structure J43 where
  a0 : Nat → Nat → Int → Int → H → Prop
  a1 : Int → Bool → Nat → Nat → Int → Int → Bool → Int → AV → Int → Int → H → Prop
  a2 : Int → Bool → Nat → Nat → Int → Int → Bool → Int → Int → AV → Int → Int → H → Prop
  a3 : Nat → Nat → Int → Int → Bool → Nat → Nat → Int → H → Prop
  a4 : Nat → Nat → Int → Int → Bool → Nat → Nat → H → Prop
  a5 : Nat → Nat → Int → Int → Bool → Nat → Nat → H → Prop
noncomputable def s43_0 (c : Caller Prop FT) (k : KV) (J : J43) (l_0 : Nat) (c_0 : Nat) (n_1 : Int) (n_2 : Int) (h : H) : Prop :=
 cnd (strEq l_0 c_0 0 0)
 (k (.tuple [(.int .u64 (Int.ofNat 0)), (.iface 83 (.int .i64 (Int.ofNat 2)))]) h)
 (joinB (fun k1 => gate true (ible (Int.ofNat 2) n_1)
 (k1 (ible n_1 (Int.ofNat 36)) h)
 (k1 false h)) fun b3 h2 =>
 cnd b3
 (J.a5 l_0 c_0 n_1 n_2 (ibeq n_1 (Int.ofNat 0)) l_0 c_0 h2)
 (cnd (ibeq n_1 (Int.ofNat 0))
 (idxS l_0 c_0 0 fun m4 =>
 cnd (ibeq (Int.ofNat m4) (Int.ofNat 48))
 (joinB (fun k5 => gate true (ible (Int.ofNat 3) (Int.ofNat l_0))
 (idxS l_0 c_0 1 fun m8 =>
 c (.func 57) [(.int .u8 (Int.ofNat m8))] h2 fun v9 h10 =>
 asI .u8 v9 fun n11 =>
 k5 (ibeq n11 (Int.ofNat 98)) h10)
 (k5 false h2)) fun b7 h6 =>
 cnd b7
 (cutS l_0 c_0 2 l_0 fun l12 c13 =>
 J.a5 l12 c13 (Int.ofNat 2) n_2 (ibeq n_1 (Int.ofNat 0)) l_0 c_0 h6)
 (joinB (fun k14 => gate true (ible (Int.ofNat 3) (Int.ofNat l_0))
 (idxS l_0 c_0 1 fun m17 =>
 c (.func 57) [(.int .u8 (Int.ofNat m17))] h6 fun v18 h19 =>
 asI .u8 v18 fun n20 =>
 k14 (ibeq n20 (Int.ofNat 111)) h19)
 (k14 false h6)) fun b16 h15 =>
 cnd b16
 (cutS l_0 c_0 2 l_0 fun l21 c22 =>
 J.a5 l21 c22 (Int.ofNat 8) n_2 (ibeq n_1 (Int.ofNat 0)) l_0 c_0 h15)
 (joinB (fun k23 => gate true (ible (Int.ofNat 3) (Int.ofNat l_0))
 (idxS l_0 c_0 1 fun m26 =>
 c (.func 57) [(.int .u8 (Int.ofNat m26))] h15 fun v27 h28 =>
 asI .u8 v27 fun n29 =>
 k23 (ibeq n29 (Int.ofNat 120)) h28)
 (k23 false h15)) fun b25 h24 =>
 cnd b25
 (cutS l_0 c_0 2 l_0 fun l30 c31 =>
 J.a5 l30 c31 (Int.ofNat 16) n_2 (ibeq n_1 (Int.ofNat 0)) l_0 c_0 h24)
 (cutS l_0 c_0 1 l_0 fun l32 c33 =>
 J.a5 l32 c33 (Int.ofNat 8) n_2 (ibeq n_1 (Int.ofNat 0)) l_0 c_0 h24))))
 (J.a5 l_0 c_0 (Int.ofNat 10) n_2 (ibeq n_1 (Int.ofNat 0)) l_0 c_0 h2))
 (k (.tuple [(.int .u64 (Int.ofNat 0)), (.iface 83 (.int .i64 (Int.ofNat 3)))]) h2)))
noncomputable def s43_1 (c : Caller Prop FT) (k : KV) (J : J43) (n_1 : Int) (b_8 : Bool) (l_9 : Nat) (c_9 : Nat) (n_10 : Int) (n_11 : Int) (b_12 : Bool) (n_13 : Int) (v_99 : AV) (n_100 : Int) (n_101 : Int) (h : H) : Prop :=
 cnd (iblt n_101 n_100)
 (natI n_101 fun m34 =>
 elemA 1 m34 v_99 fun v35 =>
 ld1 v35 h fun v36 =>
 asI .u8 v36 fun n37 =>
 joinB (fun k38 => gate true (ibeq n37 (Int.ofNat 95))
 (k38 b_8 h)
 (k38 false h)) fun b40 h39 =>
 cnd b40
 (fI (wrap .i64 (iadd n_101 (Int.ofNat 1))) fun n41 =>
 J.a1 n_1 b_8 l_9 c_9 n_10 n_11 true n_13 v_99 n_100 n41 h39)
 (joinB (fun k42 => gate true (ible (Int.ofNat 48) n37)
 (k42 (ible n37 (Int.ofNat 57)) h39)
 (k42 false h39)) fun b44 h43 =>
 cnd b44
 (fI (wrap .u8 (isub n37 (Int.ofNat 48))) fun n45 =>
 J.a2 n_1 b_8 l_9 c_9 n_10 n_11 b_12 n_13 n45 v_99 n_100 n_101 h43)
 (c (.func 57) [(.int .u8 n37)] h43 fun v46 h47 =>
 asI .u8 v46 fun n48 =>
 joinB (fun k49 => gate true (ible (Int.ofNat 97) n48)
 (c (.func 57) [(.int .u8 n37)] h47 fun v52 h53 =>
 asI .u8 v52 fun n54 =>
 k49 (ible n54 (Int.ofNat 122)) h53)
 (k49 false h47)) fun b51 h50 =>
 cnd b51
 (c (.func 57) [(.int .u8 n37)] h50 fun v55 h56 =>
 asI .u8 v55 fun n57 =>
 fI (wrap .u8 (isub n57 (Int.ofNat 97))) fun n58 =>
 fI (wrap .u8 (iadd n58 (Int.ofNat 10))) fun n59 =>
 J.a2 n_1 b_8 l_9 c_9 n_10 n_11 b_12 n_13 n59 v_99 n_100 n_101 h56)
 (k (.tuple [(.int .u64 (Int.ofNat 0)), (.iface 83 (.int .i64 (Int.ofNat 2)))]) h50))))
 (joinB (fun k60 => gate true b_12
 (c (.func 58) [(.str l_9 c_9)] h fun v63 h64 =>
 asB v63 fun b65 =>
 k60 (bnot b65) h64)
 (k60 false h)) fun b62 h61 =>
 cnd b62
 (k (.tuple [(.int .u64 (Int.ofNat 0)), (.iface 83 (.int .i64 (Int.ofNat 2)))]) h61)
 (k (.tuple [(.int .u64 n_13), .nili]) h61))
noncomputable def s43_2 (_c : Caller Prop FT) (k : KV) (J : J43) (n_1 : Int) (b_8 : Bool) (l_9 : Nat) (c_9 : Nat) (n_10 : Int) (n_11 : Int) (b_12 : Bool) (n_13 : Int) (n_16 : Int) (v_99 : AV) (n_100 : Int) (n_101 : Int) (h : H) : Prop :=
 fI (wrap .u8 n_1) fun n66 =>
 cnd (ible n66 n_16)
 (k (.tuple [(.int .u64 (Int.ofNat 0)), (.iface 83 (.int .i64 (Int.ofNat 2)))]) h)
 (cnd (ible n_10 n_13)
 (k (.tuple [(.int .u64 n_11), (.iface 83 (.int .i64 (Int.ofNat 1)))]) h)
 (fI (wrap .u64 n_1) fun n67 =>
 fI (wrap .u64 (n_13 * n67)) fun n68 =>
 fI (wrap .u64 n_16) fun n69 =>
 fI (wrap .u64 (iadd n68 n69)) fun n70 =>
 joinB (fun k71 => gate false (iblt n70 n68)
 (k71 (iblt n_11 n70) h)
 (k71 true h)) fun b73 h72 =>
 cnd b73
 (k (.tuple [(.int .u64 n_11), (.iface 83 (.int .i64 (Int.ofNat 1)))]) h72)
 (fI (wrap .i64 (iadd n_101 (Int.ofNat 1))) fun n74 =>
 J.a1 n_1 b_8 l_9 c_9 n_10 n_11 b_12 n70 v_99 n_100 n74 h72)))
noncomputable def s43_3 (_c : Caller Prop FT) (_k : KV) (J : J43) (l_0 : Nat) (c_0 : Nat) (n_1 : Int) (n_2 : Int) (b_8 : Bool) (l_9 : Nat) (c_9 : Nat) (n_10 : Int) (h : H) : Prop :=
 fI (wrap .u64 n_2) fun n75 =>
 shlI .u64 (Int.ofNat 1) n75 fun n76 =>
 fI (wrap .u64 (isub n76 (Int.ofNat 1))) fun n77 =>
 oK (convA env h 9 37 (.str l_0 c_0)) fun v78 h79 =>
 lenV v78 fun m80 =>
 J.a1 n_1 b_8 l_9 c_9 n_10 n77 false (Int.ofNat 0) v78 (Int.ofNat m80) (Int.ofNat 0) h79
noncomputable def s43_4 (_c : Caller Prop FT) (_k : KV) (J : J43) (l_0 : Nat) (c_0 : Nat) (n_1 : Int) (n_2 : Int) (b_8 : Bool) (l_9 : Nat) (c_9 : Nat) (h : H) : Prop :=
 cnd (ibeq n_1 (Int.ofNat 10))
 (J.a3 l_0 c_0 n_1 n_2 b_8 l_9 c_9 (Int.ofNat 1844674407370955162) h)
 (cnd (ibeq n_1 (Int.ofNat 16))
 (J.a3 l_0 c_0 n_1 n_2 b_8 l_9 c_9 (Int.ofNat 1152921504606846976) h)
 (fI (wrap .u64 n_1) fun n81 =>
 quoI .u64 (Int.ofNat 18446744073709551615) n81 fun n82 =>
 fI (wrap .u64 (iadd n82 (Int.ofNat 1))) fun n83 =>
 J.a3 l_0 c_0 n_1 n_2 b_8 l_9 c_9 n83 h))
noncomputable def s43_5 (_c : Caller Prop FT) (k : KV) (J : J43) (l_0 : Nat) (c_0 : Nat) (n_1 : Int) (n_2 : Int) (b_8 : Bool) (l_9 : Nat) (c_9 : Nat) (h : H) : Prop :=
 cnd (ibeq n_2 (Int.ofNat 0))
 (J.a4 l_0 c_0 n_1 (Int.ofNat 64) b_8 l_9 c_9 h)
 (joinB (fun k84 => gate false (iblt n_2 (Int.ofNat 0))
 (k84 (iblt (Int.ofNat 64) n_2) h)
 (k84 true h)) fun b86 h85 =>
 cnd b86
 (k (.tuple [(.int .u64 (Int.ofNat 0)), (.iface 83 (.int .i64 (Int.ofNat 4)))]) h85)
 (J.a4 l_0 c_0 n_1 n_2 b_8 l_9 c_9 h85))
noncomputable def z43 : J43 := ⟨fun _ _ _ _ _ => False, fun _ _ _ _ _ _ _ _ _ _ _ _ => False, fun _ _ _ _ _ _ _ _ _ _ _ _ _ => False, fun _ _ _ _ _ _ _ _ _ => False, fun _ _ _ _ _ _ _ _ => False, fun _ _ _ _ _ _ _ _ => False⟩
noncomputable def r43 (c : Caller Prop FT) (k : KV) (m : Nat) : J43 := Nat.rec z43 (fun _ J => ⟨s43_0 c k J, s43_1 c k J, s43_2 c k J, s43_3 c k J, s43_4 c k J, s43_5 c k J⟩) m
noncomputable def f43 (J : J43) : Jump := fun L f h => match L with
  | 0 => asS (f 0) fun l_0 c_0 => asI .i64 (f 1) fun n_1 => asI .i64 (f 2) fun n_2 => J.a0 l_0 c_0 n_1 n_2 h
  | 1 => asI .i64 (f 1) fun n_1 => asB (f 8) fun b_8 => asS (f 9) fun l_9 c_9 => asI .u64 (f 10) fun n_10 => asI .u64 (f 11) fun n_11 => asB (f 12) fun b_12 => asI .u64 (f 13) fun n_13 => asI .i64 (f 100) fun n_100 => asI .i64 (f 101) fun n_101 => J.a1 n_1 b_8 l_9 c_9 n_10 n_11 b_12 n_13 (f 99) n_100 n_101 h
  | 2 => asI .i64 (f 1) fun n_1 => asB (f 8) fun b_8 => asS (f 9) fun l_9 c_9 => asI .u64 (f 10) fun n_10 => asI .u64 (f 11) fun n_11 => asB (f 12) fun b_12 => asI .u64 (f 13) fun n_13 => asI .u8 (f 16) fun n_16 => asI .i64 (f 100) fun n_100 => asI .i64 (f 101) fun n_101 => J.a2 n_1 b_8 l_9 c_9 n_10 n_11 b_12 n_13 n_16 (f 99) n_100 n_101 h
  | 3 => asS (f 0) fun l_0 c_0 => asI .i64 (f 1) fun n_1 => asI .i64 (f 2) fun n_2 => asB (f 8) fun b_8 => asS (f 9) fun l_9 c_9 => asI .u64 (f 10) fun n_10 => J.a3 l_0 c_0 n_1 n_2 b_8 l_9 c_9 n_10 h
  | 4 => asS (f 0) fun l_0 c_0 => asI .i64 (f 1) fun n_1 => asI .i64 (f 2) fun n_2 => asB (f 8) fun b_8 => asS (f 9) fun l_9 c_9 => J.a4 l_0 c_0 n_1 n_2 b_8 l_9 c_9 h
  | 5 => asS (f 0) fun l_0 c_0 => asI .i64 (f 1) fun n_1 => asI .i64 (f 2) fun n_2 => asB (f 8) fun b_8 => asS (f 9) fun l_9 c_9 => J.a5 l_0 c_0 n_1 n_2 b_8 l_9 c_9 h
  | _ => False
noncomputable def d43 : Code := Option.rec .skip (fun c => c) Go.Proofs.Tryd.f43.body
noncomputable def q43 : Plans := []
noncomputable def u43 : Cuts := [(.root, 0), ((.l (.r (.l (.r (.r (.r (.r (.r (.r (.r (.r (.r (.r (.r .root)))))))))))))), 1), ((.r (.r (.r (.l (.l (.r (.r (.l (.l (.r (.l (.r (.r (.r (.r (.r (.r (.r (.r (.r (.r (.r .root)))))))))))))))))))))), 2), ((.r (.r (.r (.r (.r (.r (.r (.r .root)))))))), 3), ((.r (.r (.r (.r (.r (.r .root)))))), 4), ((.r (.r (.r (.r (.r .root))))), 5)]
/- strconv.toError -/
structure J44 where
  a0 : Nat → Nat → Nat → Nat → Int → Int → AV → H → Prop
noncomputable def s44_0 (_c : Caller Prop FT) (_k : KV) (_J : J44) (_l_0 : Nat) (_c_0 : Nat) (_l_1 : Nat) (_c_1 : Nat) (_n_2 : Int) (_n_3 : Int) (_v_4 : AV) (_h : H) : Prop :=
 False
noncomputable def z44 : J44 := ⟨fun _ _ _ _ _ _ _ _ => False⟩
noncomputable def r44 (c : Caller Prop FT) (k : KV) (m : Nat) : J44 := Nat.rec z44 (fun _ J => ⟨s44_0 c k J⟩) m
noncomputable def f44 (J : J44) : Jump := fun L f h => match L with
  | 0 => asS (f 0) fun l_0 c_0 => asS (f 1) fun l_1 c_1 => asI .i64 (f 2) fun n_2 => asI .i64 (f 3) fun n_3 => J.a0 l_0 c_0 l_1 c_1 n_2 n_3 (f 4) h
  | _ => False
noncomputable def d44 : Code := Option.rec .skip (fun c => c) Go.Proofs.Tryd.f44.body
noncomputable def q44 : Plans := [(2, [])]
noncomputable def u44 : Cuts := [(.root, 0)]
/- strings.CutPrefix -/
structure J45 where
  a0 : Nat → Nat → Nat → Nat → H → Prop
noncomputable def s45_0 (c : Caller Prop FT) (k : KV) (_J : J45) (l_0 : Nat) (c_0 : Nat) (l_1 : Nat) (c_1 : Nat) (h : H) : Prop :=
 c (.func 63) [(.str l_0 c_0), (.str l_1 c_1)] h fun v1 h2 =>
 ext 0 v1 fun v3 =>
 asS v3 fun l4 c5 =>
 ext 1 v1 fun v6 =>
 asB v6 fun b7 =>
 k (.tuple [(.str l4 c5), (.bool b7)]) h2
noncomputable def z45 : J45 := ⟨fun _ _ _ _ _ => False⟩
noncomputable def r45 (c : Caller Prop FT) (k : KV) (m : Nat) : J45 := Nat.rec z45 (fun _ J => ⟨s45_0 c k J⟩) m
noncomputable def f45 (J : J45) : Jump := fun L f h => match L with
  | 0 => asS (f 0) fun l_0 c_0 => asS (f 1) fun l_1 c_1 => J.a0 l_0 c_0 l_1 c_1 h
  | _ => False
noncomputable def d45 : Code := Option.rec .skip (fun c => c) Go.Proofs.Tryd.f45.body
noncomputable def q45 : Plans := []
noncomputable def u45 : Cuts := [(.root, 0)]
/- oxbow/oxbowref9.ahead -/
structure J46 where
  a0 : Nat → Nat → Int → H → Prop
  a1 : Nat → Nat → Int → AV → Int → H → Prop
noncomputable def s46_0 (_c : Caller Prop FT) (_k : KV) (J : J46) (l_0 : Nat) (c_0 : Nat) (n_1 : Int) (h : H) : Prop :=
 oK (withElem env 35 (fun e ei => exBuildSlice 5 [(0, (.str 0 0)), (1, (.str 1 76)), (2, (.str 1 117)), (3, (.str 1 85)), (4, (.str 2 14453))] h e ei)) fun v1 h2 =>
 J.a1 l_0 c_0 n_1 v1 (Int.ofNat 0) h2
noncomputable def s46_1 (_c : Caller Prop FT) (k : KV) (J : J46) (l_0 : Nat) (c_0 : Nat) (n_1 : Int) (v_5 : AV) (n_6 : Int) (h : H) : Prop :=
 lenV v_5 fun m3 =>
 cnd (iblt n_6 (Int.ofNat m3))
 (natI n_6 fun m4 =>
 elemA 1 m4 v_5 fun v5 =>
 ld1 v5 h fun v6 =>
 asS v6 fun l7 _ =>
 fI (wrap .i64 (iadd (Int.ofNat l7) (Int.ofNat 2))) fun n9 =>
 joinB (fun k10 => gate true (ible n9 (Int.ofNat l_0))
 (cutS l_0 c_0 0 l7 fun l13 c14 =>
 natI n_6 fun m15 =>
 elemA 1 m15 v_5 fun v16 =>
 ld1 v16 h fun v17 =>
 asS v17 fun l18 c19 =>
 k10 (strEq l13 c14 l18 c19) h)
 (k10 false h)) fun b12 h11 =>
 joinB (fun k20 => gate true b12
 (idxS l_0 c_0 l7 fun m23 =>
 k20 (ibeq (Int.ofNat m23) n_1) h11)
 (k20 false h11)) fun b22 h21 =>
 joinB (fun k24 => gate true b22
 (fI (wrap .i64 (isub (Int.ofNat l_0) (Int.ofNat 1))) fun n27 =>
 natI n27 fun m28 =>
 idxS l_0 c_0 m28 fun m29 =>
 k24 (ibeq (Int.ofNat m29) n_1) h21)
 (k24 false h21)) fun b26 h25 =>
 cnd b26
 (k (.int .i64 (Int.ofNat l7)) h25)
 (fI (wrap .i64 (iadd n_6 (Int.ofNat 1))) fun n30 =>
 J.a1 l_0 c_0 n_1 v_5 n30 h25))
 (k (.int .i64 (Int.negSucc 0)) h)
noncomputable def z46 : J46 := ⟨fun _ _ _ _ => False, fun _ _ _ _ _ _ => False⟩
noncomputable def r46 (c : Caller Prop FT) (k : KV) (m : Nat) : J46 := Nat.rec z46 (fun _ J => ⟨s46_0 c k J, s46_1 c k J⟩) m
noncomputable def f46 (J : J46) : Jump := fun L f h => match L with
  | 0 => asS (f 0) fun l_0 c_0 => asI .u8 (f 1) fun n_1 => J.a0 l_0 c_0 n_1 h
  | 1 => asS (f 0) fun l_0 c_0 => asI .u8 (f 1) fun n_1 => asI .i64 (f 6) fun n_6 => J.a1 l_0 c_0 n_1 (f 5) n_6 h
  | _ => False
noncomputable def d46 : Code := Option.rec .skip (fun c => c) Go.Proofs.Tryd.f46.body
noncomputable def q46 : Plans := [(6, [0, 1, 2, 3, 4, 5, 6, 7, 8, 9, 10, 11, 12, 13, 14, 15, 16, 17, 18, 19, 20, 21, 22, 23, 24, 25, 26, 27, 28, 29, 30])]
noncomputable def u46 : Cuts := [(.root, 0), ((.l (.r (.l (.r (.r .root))))), 1)]
/- (*strings.Builder).copyCheck -/
structure J47 where
  a0 : AV → H → Prop
noncomputable def s47_0 (c : Caller Prop FT) (k : KV) (_J : J47) (v_0 : AV) (h : H) : Prop :=
 oK (exNil v_0 h) fun v1 h2 =>
 fAddr 0 v1 fun v3 =>
 ld1 v3 h2 fun v4 =>
 oV (binA env .eql 57 v4 .nilp) fun v5 =>
 asB v5 fun b6 =>
 cnd b6
 (oK (convA env h2 57 88 v_0) fun v7 h8 =>
 c (.func 64) [v7] h8 fun v9 h10 =>
 oK (convA env h10 88 57 v9) fun v11 h12 =>
 oK (exNil v_0 h12) fun v13 h14 =>
 fAddr 0 v13 fun v15 =>
 st1 v15 v11 h14 fun h16 =>
 k (.tuple []) h16)
 (oK (exNil v_0 h2) fun v17 h18 =>
 fAddr 0 v17 fun v19 =>
 ld1 v19 h18 fun v20 =>
 oV (binA env .neq 57 v20 v_0) fun v21 =>
 asB v21 fun b22 =>
 cnd b22
 (False)
 (k (.tuple []) h18))
noncomputable def z47 : J47 := ⟨fun _ _ => False⟩
noncomputable def r47 (c : Caller Prop FT) (k : KV) (m : Nat) : J47 := Nat.rec z47 (fun _ J => ⟨s47_0 c k J⟩) m
noncomputable def f47 (J : J47) : Jump := fun L f h => match L with
  | 0 => J.a0 (f 0) h
  | _ => False
noncomputable def d47 : Code := Option.rec .skip (fun c => c) Go.Proofs.Tryd.f47.body
noncomputable def q47 : Plans := []
noncomputable def u47 : Cuts := [(.root, 0)]
/- strings.IndexByte -/
structure J48 where
  a0 : Nat → Nat → Int → H → Prop
noncomputable def s48_0 (c : Caller Prop FT) (k : KV) (_J : J48) (l_0 : Nat) (c_0 : Nat) (n_1 : Int) (h : H) : Prop :=
 c (.func 65) [(.str l_0 c_0), (.int .u8 n_1)] h fun v1 h2 =>
 asI .i64 v1 fun n3 =>
 k (.int .i64 n3) h2
noncomputable def z48 : J48 := ⟨fun _ _ _ _ => False⟩
noncomputable def r48 (c : Caller Prop FT) (k : KV) (m : Nat) : J48 := Nat.rec z48 (fun _ J => ⟨s48_0 c k J⟩) m
noncomputable def f48 (J : J48) : Jump := fun L f h => match L with
  | 0 => asS (f 0) fun l_0 c_0 => asI .u8 (f 1) fun n_1 => J.a0 l_0 c_0 n_1 h
  | _ => False
noncomputable def d48 : Code := Option.rec .skip (fun c => c) Go.Proofs.Tryd.f48.body
noncomputable def q48 : Plans := []
noncomputable def u48 : Cuts := [(.root, 0)]
/- strings.ToLower -/
structure J49 where
  a0 : Nat → Nat → H → Prop
  a1 : Nat → Nat → Bool → Bool → Int → H → Prop
  a2 : Nat → Nat → AV → Int → Int → H → Prop
  a3 : Nat → Nat → AV → Int → Int → H → Prop
  a4 : Nat → Nat → AV → Int → Int → H → Prop
  a5 : Nat → Nat → Bool → Bool → H → Prop
noncomputable def s49_0 (_c : Caller Prop FT) (_k : KV) (J : J49) (l_0 : Nat) (c_0 : Nat) (h : H) : Prop :=
 J.a1 l_0 c_0 true false (Int.ofNat 0) h
noncomputable def s49_1 (_c : Caller Prop FT) (_k : KV) (J : J49) (l_0 : Nat) (c_0 : Nat) (b_3 : Bool) (b_4 : Bool) (n_5 : Int) (h : H) : Prop :=
 cnd (iblt n_5 (Int.ofNat l_0))
 (natI n_5 fun m1 =>
 idxS l_0 c_0 m1 fun m2 =>
 cnd (ible (Int.ofNat 128) (Int.ofNat m2))
 (J.a5 l_0 c_0 false b_4 h)
 (joinB (fun k3 => gate false b_4
 (joinB (fun k6 => gate true (ible (Int.ofNat 65) (Int.ofNat m2))
 (k6 (ible (Int.ofNat m2) (Int.ofNat 90)) h)
 (k6 false h)) fun b8 h7 =>
 k3 b8 h7)
 (k3 true h)) fun b5 h4 =>
 fI (wrap .i64 (iadd n_5 (Int.ofNat 1))) fun n9 =>
 J.a1 l_0 c_0 b_3 b5 n9 h4))
 (J.a5 l_0 c_0 b_3 b_4 h)
noncomputable def s49_2 (c : Caller Prop FT) (k : KV) (J : J49) (l_0 : Nat) (c_0 : Nat) (v_7 : AV) (n_8 : Int) (n_9 : Int) (h : H) : Prop :=
 cnd (iblt n_9 (Int.ofNat l_0))
 (natI n_9 fun m10 =>
 idxS l_0 c_0 m10 fun m11 =>
 joinB (fun k12 => gate true (ible (Int.ofNat 65) (Int.ofNat m11))
 (k12 (ible (Int.ofNat m11) (Int.ofNat 90)) h)
 (k12 false h)) fun b14 h13 =>
 cnd b14
 (fI (wrap .u8 (iadd (Int.ofNat m11) (Int.ofNat 32))) fun n15 =>
 cnd (iblt n_8 n_9)
 (natI n_9 fun m16 =>
 natI n_8 fun m17 =>
 cutS l_0 c_0 m17 m16 fun l18 c19 =>
 c (.func 67) [v_7, (.str l18 c19)] h13 fun _ h21 =>
 J.a3 l_0 c_0 v_7 n_9 n15 h21)
 (J.a3 l_0 c_0 v_7 n_9 n15 h13))
 (J.a4 l_0 c_0 v_7 n_8 n_9 h13))
 (cnd (iblt n_8 (Int.ofNat l_0))
 (natI n_8 fun m22 =>
 cutS l_0 c_0 m22 l_0 fun l23 c24 =>
 c (.func 67) [v_7, (.str l23 c24)] h fun _ h26 =>
 c (.func 31) [v_7] h26 fun v27 h28 =>
 asS v27 fun l29 c30 =>
 k (.str l29 c30) h28)
 (c (.func 31) [v_7] h fun v31 h32 =>
 asS v31 fun l33 c34 =>
 k (.str l33 c34) h32))
noncomputable def s49_3 (c : Caller Prop FT) (_k : KV) (J : J49) (l_0 : Nat) (c_0 : Nat) (v_7 : AV) (n_9 : Int) (n_10 : Int) (h : H) : Prop :=
 c (.func 32) [v_7, (.int .u8 n_10)] h fun _ h36 =>
 fI (wrap .i64 (iadd n_9 (Int.ofNat 1))) fun n37 =>
 J.a4 l_0 c_0 v_7 n37 n_9 h36
noncomputable def s49_4 (_c : Caller Prop FT) (_k : KV) (J : J49) (l_0 : Nat) (c_0 : Nat) (v_7 : AV) (n_8 : Int) (n_9 : Int) (h : H) : Prop :=
 fI (wrap .i64 (iadd n_9 (Int.ofNat 1))) fun n38 =>
 J.a2 l_0 c_0 v_7 n_8 n38 h
noncomputable def s49_5 (c : Caller Prop FT) (k : KV) (J : J49) (l_0 : Nat) (c_0 : Nat) (b_3 : Bool) (b_4 : Bool) (h : H) : Prop :=
 cnd b_3
 (cnd (bnot b_4)
 (k (.str l_0 c_0) h)
 (Hp.newK h ob59 fun p39 h40 =>
 c (.func 66) [(.ptr p39 0), (.int .i64 (Int.ofNat l_0))] h40 fun _ h42 =>
 J.a2 l_0 c_0 (.ptr p39 0) (Int.ofNat 0) (Int.ofNat 0) h42))
 (c (.func 68) [(.func (.func 69) [] []), (.str l_0 c_0)] h fun v43 h44 =>
 asS v43 fun l45 c46 =>
 k (.str l45 c46) h44)
noncomputable def z49 : J49 := ⟨fun _ _ _ => False, fun _ _ _ _ _ _ => False, fun _ _ _ _ _ _ => False, fun _ _ _ _ _ _ => False, fun _ _ _ _ _ _ => False, fun _ _ _ _ _ => False⟩
noncomputable def r49 (c : Caller Prop FT) (k : KV) (m : Nat) : J49 := Nat.rec z49 (fun _ J => ⟨s49_0 c k J, s49_1 c k J, s49_2 c k J, s49_3 c k J, s49_4 c k J, s49_5 c k J⟩) m
noncomputable def f49 (J : J49) : Jump := fun L f h => match L with
  | 0 => asS (f 0) fun l_0 c_0 => J.a0 l_0 c_0 h
  | 1 => asS (f 0) fun l_0 c_0 => asB (f 3) fun b_3 => asB (f 4) fun b_4 => asI .i64 (f 5) fun n_5 => J.a1 l_0 c_0 b_3 b_4 n_5 h
  | 2 => asS (f 0) fun l_0 c_0 => asI .i64 (f 8) fun n_8 => asI .i64 (f 9) fun n_9 => J.a2 l_0 c_0 (f 7) n_8 n_9 h
  | 3 => asS (f 0) fun l_0 c_0 => asI .i64 (f 9) fun n_9 => asI .u8 (f 10) fun n_10 => J.a3 l_0 c_0 (f 7) n_9 n_10 h
  | 4 => asS (f 0) fun l_0 c_0 => asI .i64 (f 8) fun n_8 => asI .i64 (f 9) fun n_9 => J.a4 l_0 c_0 (f 7) n_8 n_9 h
  | 5 => asS (f 0) fun l_0 c_0 => asB (f 3) fun b_3 => asB (f 4) fun b_4 => J.a5 l_0 c_0 b_3 b_4 h
  | _ => False
noncomputable def d49 : Code := Option.rec .skip (fun c => c) Go.Proofs.Tryd.f49.body
noncomputable def q49 : Plans := []
noncomputable def u49 : Cuts := [(.root, 0), ((.l (.r (.l (.r (.r .root))))), 1), ((.l (.r (.l (.r (.r (.r (.r (.l (.r (.l (.r (.r (.r .root))))))))))))), 2), ((.r (.r (.l (.r (.r (.l (.l (.r (.l (.l (.r (.l (.r (.r (.r (.r (.l (.r (.l (.r (.r (.r .root)))))))))))))))))))))), 3), ((.r (.r (.l (.l (.r (.l (.r (.r (.r (.r (.l (.r (.l (.r (.r (.r .root)))))))))))))))), 4), ((.r (.r (.r .root))), 5)]
/- strings.IndexRune -/
structure J50 where
  a0 : Nat → Nat → Int → H → Prop
  a1 : AV → H → Prop
  a2 : Nat → Nat → Int → Nat → Nat → Int → Int → Int → H → Prop
  a3 : Nat → Nat → Int → Nat → Nat → Int → Int → Int → Int → H → Prop
  a4 : Nat → Nat → Int → Nat → Nat → Int → Int → Int → H → Prop
  a5 : Nat → Nat → Int → Nat → Nat → Int → Int → Int → H → Prop
  a6 : Nat → Nat → Nat → Nat → Int → Int → Int → Int → H → Prop
  a7 : Nat → Nat → Nat → Nat → Int → Int → Int → Int → Int → H → Prop
  a8 : Nat → Nat → Nat → Nat → Int → Int → Int → Int → H → Prop
  a9 : Nat → Nat → Nat → Nat → Int → Int → Int → Int → H → Prop
  a10 : Nat → Nat → Nat → Nat → Int → Int → Int → Int → H → Prop
  a11 : Nat → Nat → Nat → Nat → Int → Int → Int → Int → Int → H → Prop
  a12 : Nat → Nat → Nat → Nat → Int → Int → Int → Int → H → Prop
  a13 : Nat → Nat → Int → Nat → Nat → Int → Int → H → Prop
  a14 : Nat → Nat → Nat → Nat → Int → Int → Int → Int → H → Prop
  a15 : Nat → Nat → Nat → Nat → Int → Int → Int → Int → Int → H → Prop
  a16 : Nat → Nat → Nat → Nat → Int → Int → Int → Int → H → Prop
  a17 : Nat → Nat → Nat → Nat → Int → Int → Int → Int → H → Prop
  a18 : Nat → Nat → Nat → Nat → Int → Int → Int → Int → H → Prop
  a19 : Nat → Nat → Nat → Nat → Int → Int → Int → Int → Int → H → Prop
  a20 : Nat → Nat → Nat → Nat → Int → Int → Int → Int → H → Prop
  a21 : Int → Int → Int → H → Prop
  a22 : Nat → Nat → Nat → Nat → Int → Int → Int → Int → H → Prop
noncomputable def s50_0 (c : Caller Prop FT) (k : KV) (J : J50) (l_0 : Nat) (c_0 : Nat) (n_1 : Int) (h : H) : Prop :=
 joinB (fun k1 => gate true (ible (Int.ofNat 0) n_1)
 (k1 (iblt n_1 (Int.ofNat 128)) h)
 (k1 false h)) fun b3 h2 =>
 cnd b3
 (fI (wrap .u8 n_1) fun n4 =>
 c (.func 48) [(.str l_0 c_0), (.int .u8 n4)] h2 fun v5 h6 =>
 asI .i64 v5 fun n7 =>
 k (.int .i64 n7) h6)
 (cnd (ibeq n_1 (Int.ofNat 65533))
 (oK (exRange env 9 (.str l_0 c_0) h2) fun v8 h9 =>
 J.a1 v8 h9)
 (c (.func 70) [(.int .i32 n_1)] h2 fun v10 h11 =>
 asB v10 fun b12 =>
 cnd (bnot b12)
 (k (.int .i64 (Int.negSucc 0)) h11)
 (oK (convA env h11 21 9 (.int .i32 n_1)) fun v13 h14 =>
 asS v13 fun l15 c16 =>
 fI (wrap .i64 (isub (Int.ofNat l15) (Int.ofNat 1))) fun n17 =>
 J.a2 l_0 c_0 n_1 l15 c16 n17 n17 (Int.ofNat 0) h14)))
noncomputable def s50_1 (_c : Caller Prop FT) (k : KV) (J : J50) (v_175 : AV) (h : H) : Prop :=
 oK (exNext v_175 true h) fun v18 h19 =>
 ext 0 v18 fun v20 =>
 asB v20 fun b21 =>
 cnd b21
 (ext 1 v18 fun v22 =>
 asI .i64 v22 fun n23 =>
 ext 2 v18 fun v24 =>
 asI .i32 v24 fun n25 =>
 cnd (ibeq n25 (Int.ofNat 65533))
 (k (.int .i64 n23) h19)
 (J.a1 v_175 h19))
 (k (.int .i64 (Int.negSucc 0)) h19)
noncomputable def s50_2 (c : Caller Prop FT) (k : KV) (J : J50) (l_0 : Nat) (c_0 : Nat) (n_1 : Int) (l_7 : Nat) (c_7 : Nat) (n_8 : Int) (n_9 : Int) (n_10 : Int) (h : H) : Prop :=
 cnd (iblt n_9 (Int.ofNat l_0))
 (natI n_9 fun m26 =>
 idxS l_0 c_0 m26 fun m27 =>
 natI n_8 fun m28 =>
 idxS l_7 c_7 m28 fun m29 =>
 cnd (bnot (ibeq (Int.ofNat m27) (Int.ofNat m29)))
 (fI (wrap .i64 (iadd n_9 (Int.ofNat 1))) fun n30 =>
 natI n30 fun m31 =>
 cutS l_0 c_0 m31 l_0 fun l32 c33 =>
 natI n_8 fun m34 =>
 idxS l_7 c_7 m34 fun m35 =>
 c (.func 48) [(.str l32 c33), (.int .u8 (Int.ofNat m35))] h fun v36 h37 =>
 asI .i64 v36 fun n38 =>
 cnd (iblt n38 (Int.ofNat 0))
 (k (.int .i64 (Int.negSucc 0)) h37)
 (fI (wrap .i64 (iadd n38 (Int.ofNat 1))) fun n39 =>
 fI (wrap .i64 (iadd n_9 n39)) fun n40 =>
 J.a4 l_0 c_0 n_1 l_7 c_7 n_8 n40 n_10 h37))
 (J.a4 l_0 c_0 n_1 l_7 c_7 n_8 n_9 n_10 h))
 (k (.int .i64 (Int.negSucc 0)) h)
noncomputable def s50_3 (_c : Caller Prop FT) (k : KV) (J : J50) (l_0 : Nat) (c_0 : Nat) (n_1 : Int) (l_7 : Nat) (c_7 : Nat) (n_8 : Int) (n_9 : Int) (n_10 : Int) (n_12 : Int) (h : H) : Prop :=
 cnd (iblt n_12 (Int.ofNat l_7))
 (fI (wrap .i64 (isub n_9 n_12)) fun n41 =>
 natI n41 fun m42 =>
 idxS l_0 c_0 m42 fun m43 =>
 fI (wrap .i64 (isub n_8 n_12)) fun n44 =>
 natI n44 fun m45 =>
 idxS l_7 c_7 m45 fun m46 =>
 cnd (bnot (ibeq (Int.ofNat m43) (Int.ofNat m46)))
 (J.a5 l_0 c_0 n_1 l_7 c_7 n_8 n_9 n_10 h)
 (fI (wrap .i64 (iadd n_12 (Int.ofNat 1))) fun n47 =>
 J.a3 l_0 c_0 n_1 l_7 c_7 n_8 n_9 n_10 n47 h))
 (fI (wrap .i64 (isub n_9 n_8)) fun n48 =>
 k (.int .i64 n48) h)
noncomputable def s50_4 (_c : Caller Prop FT) (_k : KV) (J : J50) (l_0 : Nat) (c_0 : Nat) (n_1 : Int) (l_7 : Nat) (c_7 : Nat) (n_8 : Int) (n_9 : Int) (n_10 : Int) (h : H) : Prop :=
 J.a3 l_0 c_0 n_1 l_7 c_7 n_8 n_9 n_10 (Int.ofNat 1) h
noncomputable def s50_5 (c : Caller Prop FT) (_k : KV) (J : J50) (l_0 : Nat) (c_0 : Nat) (n_1 : Int) (l_7 : Nat) (c_7 : Nat) (n_8 : Int) (n_9 : Int) (n_10 : Int) (h : H) : Prop :=
 fI (wrap .i64 (iadd n_10 (Int.ofNat 1))) fun n49 =>
 fI (wrap .i64 (iadd n_9 (Int.ofNat 1))) fun n50 =>
 joinB (fun k51 => gate true true
 (c (.func 71) [(.int .i64 n50)] h fun v54 h55 =>
 asI .i64 v54 fun n56 =>
 k51 (iblt n56 n49) h55)
 (k51 false h)) fun b53 h52 =>
 joinB (fun k57 => gate true b53
 (k57 (iblt n50 (Int.ofNat l_0)) h52)
 (k57 false h52)) fun b59 h58 =>
 joinB (fun k60 => gate false b59
 (joinB (fun k63 => gate true false
 (shrI .i64 n50 (Int.ofNat 4) fun n66 =>
 fI (wrap .i64 (iadd (Int.ofNat 4) n66)) fun n67 =>
 k63 (ible n67 n49) h58)
 (k63 false h58)) fun b65 h64 =>
 joinB (fun k68 => gate true b65
 (k68 (iblt n50 (Int.ofNat l_0)) h64)
 (k68 false h64)) fun b70 h69 =>
 k60 b70 h69)
 (k60 true h58)) fun b62 h61 =>
 cnd b62
 (J.a13 l_0 c_0 n_1 l_7 c_7 n_8 n50 h61)
 (J.a2 l_0 c_0 n_1 l_7 c_7 n_8 n50 n49 h61)
noncomputable def s50_6 (_c : Caller Prop FT) (k : KV) (J : J50) (l_0 : Nat) (c_0 : Nat) (l_7 : Nat) (c_7 : Nat) (n_8 : Int) (n_9 : Int) (n_14 : Int) (n_15 : Int) (h : H) : Prop :=
 cnd (iblt n_9 (Int.ofNat l_0))
 (natI n_9 fun m71 =>
 idxS l_0 c_0 m71 fun m72 =>
 joinB (fun k73 => gate true (ibeq (Int.ofNat m72) n_14)
 (fI (wrap .i64 (isub n_9 (Int.ofNat 1))) fun n76 =>
 natI n76 fun m77 =>
 idxS l_0 c_0 m77 fun m78 =>
 k73 (ibeq (Int.ofNat m78) n_15) h)
 (k73 false h)) fun b75 h74 =>
 cnd b75
 (J.a7 l_0 c_0 l_7 c_7 n_8 n_9 n_14 n_15 (Int.ofNat 2) h74)
 (J.a8 l_0 c_0 l_7 c_7 n_8 n_9 n_14 n_15 h74))
 (k (.int .i64 (Int.negSucc 0)) h)
noncomputable def s50_7 (_c : Caller Prop FT) (k : KV) (J : J50) (l_0 : Nat) (c_0 : Nat) (l_7 : Nat) (c_7 : Nat) (n_8 : Int) (n_9 : Int) (n_14 : Int) (n_15 : Int) (n_16 : Int) (h : H) : Prop :=
 cnd (iblt n_16 (Int.ofNat l_7))
 (fI (wrap .i64 (isub n_9 n_16)) fun n79 =>
 natI n79 fun m80 =>
 idxS l_0 c_0 m80 fun m81 =>
 fI (wrap .i64 (isub n_8 n_16)) fun n82 =>
 natI n82 fun m83 =>
 idxS l_7 c_7 m83 fun m84 =>
 cnd (bnot (ibeq (Int.ofNat m81) (Int.ofNat m84)))
 (J.a8 l_0 c_0 l_7 c_7 n_8 n_9 n_14 n_15 h)
 (fI (wrap .i64 (iadd n_16 (Int.ofNat 1))) fun n85 =>
 J.a7 l_0 c_0 l_7 c_7 n_8 n_9 n_14 n_15 n85 h))
 (fI (wrap .i64 (isub n_9 n_8)) fun n86 =>
 k (.int .i64 n86) h)
noncomputable def s50_8 (_c : Caller Prop FT) (_k : KV) (J : J50) (l_0 : Nat) (c_0 : Nat) (l_7 : Nat) (c_7 : Nat) (n_8 : Int) (n_9 : Int) (n_14 : Int) (n_15 : Int) (h : H) : Prop :=
 fI (wrap .i64 (iadd n_9 (Int.ofNat 1))) fun n87 =>
 J.a6 l_0 c_0 l_7 c_7 n_8 n87 n_14 n_15 h
noncomputable def s50_9 (_c : Caller Prop FT) (_k : KV) (J : J50) (l_0 : Nat) (c_0 : Nat) (l_7 : Nat) (c_7 : Nat) (n_8 : Int) (n_9 : Int) (n_14 : Int) (n_15 : Int) (h : H) : Prop :=
 J.a10 l_0 c_0 l_7 c_7 n_8 n_9 n_14 n_15 h
noncomputable def s50_10 (_c : Caller Prop FT) (k : KV) (J : J50) (l_0 : Nat) (c_0 : Nat) (l_7 : Nat) (c_7 : Nat) (n_8 : Int) (n_9 : Int) (n_14 : Int) (n_15 : Int) (h : H) : Prop :=
 cnd (iblt n_9 (Int.ofNat l_0))
 (natI n_9 fun m88 =>
 idxS l_0 c_0 m88 fun m89 =>
 joinB (fun k90 => gate true (ibeq (Int.ofNat m89) n_14)
 (fI (wrap .i64 (isub n_9 (Int.ofNat 1))) fun n93 =>
 natI n93 fun m94 =>
 idxS l_0 c_0 m94 fun m95 =>
 k90 (ibeq (Int.ofNat m95) n_15) h)
 (k90 false h)) fun b92 h91 =>
 cnd b92
 (J.a11 l_0 c_0 l_7 c_7 n_8 n_9 n_14 n_15 (Int.ofNat 2) h91)
 (J.a12 l_0 c_0 l_7 c_7 n_8 n_9 n_14 n_15 h91))
 (k (.int .i64 (Int.negSucc 0)) h)
noncomputable def s50_11 (_c : Caller Prop FT) (k : KV) (J : J50) (l_0 : Nat) (c_0 : Nat) (l_7 : Nat) (c_7 : Nat) (n_8 : Int) (n_9 : Int) (n_14 : Int) (n_15 : Int) (n_16 : Int) (h : H) : Prop :=
 cnd (iblt n_16 (Int.ofNat l_7))
 (fI (wrap .i64 (isub n_9 n_16)) fun n96 =>
 natI n96 fun m97 =>
 idxS l_0 c_0 m97 fun m98 =>
 fI (wrap .i64 (isub n_8 n_16)) fun n99 =>
 natI n99 fun m100 =>
 idxS l_7 c_7 m100 fun m101 =>
 cnd (bnot (ibeq (Int.ofNat m98) (Int.ofNat m101)))
 (J.a12 l_0 c_0 l_7 c_7 n_8 n_9 n_14 n_15 h)
 (fI (wrap .i64 (iadd n_16 (Int.ofNat 1))) fun n102 =>
 J.a11 l_0 c_0 l_7 c_7 n_8 n_9 n_14 n_15 n102 h))
 (fI (wrap .i64 (isub n_9 n_8)) fun n103 =>
 k (.int .i64 n103) h)
noncomputable def s50_12 (_c : Caller Prop FT) (_k : KV) (J : J50) (l_0 : Nat) (c_0 : Nat) (l_7 : Nat) (c_7 : Nat) (n_8 : Int) (n_9 : Int) (n_14 : Int) (n_15 : Int) (h : H) : Prop :=
 fI (wrap .i64 (iadd n_9 (Int.ofNat 1))) fun n104 =>
 J.a10 l_0 c_0 l_7 c_7 n_8 n104 n_14 n_15 h
noncomputable def s50_13 (c : Caller Prop FT) (k : KV) (J : J50) (l_0 : Nat) (c_0 : Nat) (n_1 : Int) (l_7 : Nat) (c_7 : Nat) (n_8 : Int) (n_9 : Int) (h : H) : Prop :=
 cnd true
 (fI (wrap .i64 (isub n_9 n_8)) fun n105 =>
 natI n105 fun m106 =>
 cutS l_0 c_0 m106 l_0 fun l107 c108 =>
 oK (convA env h 21 9 (.int .i32 n_1)) fun v109 h110 =>
 asS v109 fun l111 c112 =>
 c (.func 72) [(.str l107 c108), (.str l111 c112)] h110 fun v113 h114 =>
 asI .i64 v113 fun n115 =>
 cnd (ible (Int.ofNat 0) n115)
 (fI (wrap .i64 (iadd n_9 n115)) fun n116 =>
 fI (wrap .i64 (isub n116 n_8)) fun n117 =>
 k (.int .i64 n117) h114)
 (k (.int .i64 (Int.negSucc 0)) h114))
 (natI n_8 fun m118 =>
 idxS l_7 c_7 m118 fun m119 =>
 fI (wrap .i64 (isub n_8 (Int.ofNat 1))) fun n120 =>
 natI n120 fun m121 =>
 idxS l_7 c_7 m121 fun m122 =>
 J.a14 l_0 c_0 l_7 c_7 n_8 n_9 (Int.ofNat m119) (Int.ofNat m122) h)
noncomputable def s50_14 (_c : Caller Prop FT) (k : KV) (J : J50) (l_0 : Nat) (c_0 : Nat) (l_7 : Nat) (c_7 : Nat) (n_8 : Int) (n_9 : Int) (n_14 : Int) (n_15 : Int) (h : H) : Prop :=
 cnd (iblt n_9 (Int.ofNat l_0))
 (natI n_9 fun m123 =>
 idxS l_0 c_0 m123 fun m124 =>
 joinB (fun k125 => gate true (ibeq (Int.ofNat m124) n_14)
 (fI (wrap .i64 (isub n_9 (Int.ofNat 1))) fun n128 =>
 natI n128 fun m129 =>
 idxS l_0 c_0 m129 fun m130 =>
 k125 (ibeq (Int.ofNat m130) n_15) h)
 (k125 false h)) fun b127 h126 =>
 cnd b127
 (J.a15 l_0 c_0 l_7 c_7 n_8 n_9 n_14 n_15 (Int.ofNat 2) h126)
 (J.a16 l_0 c_0 l_7 c_7 n_8 n_9 n_14 n_15 h126))
 (k (.int .i64 (Int.negSucc 0)) h)
noncomputable def s50_15 (_c : Caller Prop FT) (k : KV) (J : J50) (l_0 : Nat) (c_0 : Nat) (l_7 : Nat) (c_7 : Nat) (n_8 : Int) (n_9 : Int) (n_14 : Int) (n_15 : Int) (n_16 : Int) (h : H) : Prop :=
 cnd (iblt n_16 (Int.ofNat l_7))
 (fI (wrap .i64 (isub n_9 n_16)) fun n131 =>
 natI n131 fun m132 =>
 idxS l_0 c_0 m132 fun m133 =>
 fI (wrap .i64 (isub n_8 n_16)) fun n134 =>
 natI n134 fun m135 =>
 idxS l_7 c_7 m135 fun m136 =>
 cnd (bnot (ibeq (Int.ofNat m133) (Int.ofNat m136)))
 (J.a16 l_0 c_0 l_7 c_7 n_8 n_9 n_14 n_15 h)
 (fI (wrap .i64 (iadd n_16 (Int.ofNat 1))) fun n137 =>
 J.a15 l_0 c_0 l_7 c_7 n_8 n_9 n_14 n_15 n137 h))
 (fI (wrap .i64 (isub n_9 n_8)) fun n138 =>
 k (.int .i64 n138) h)
noncomputable def s50_16 (_c : Caller Prop FT) (_k : KV) (J : J50) (l_0 : Nat) (c_0 : Nat) (l_7 : Nat) (c_7 : Nat) (n_8 : Int) (n_9 : Int) (n_14 : Int) (n_15 : Int) (h : H) : Prop :=
 fI (wrap .i64 (iadd n_9 (Int.ofNat 1))) fun n139 =>
 J.a14 l_0 c_0 l_7 c_7 n_8 n139 n_14 n_15 h
noncomputable def s50_17 (_c : Caller Prop FT) (_k : KV) (J : J50) (l_0 : Nat) (c_0 : Nat) (l_7 : Nat) (c_7 : Nat) (n_8 : Int) (n_9 : Int) (n_14 : Int) (n_15 : Int) (h : H) : Prop :=
 J.a18 l_0 c_0 l_7 c_7 n_8 n_9 n_14 n_15 h
noncomputable def s50_18 (_c : Caller Prop FT) (k : KV) (J : J50) (l_0 : Nat) (c_0 : Nat) (l_7 : Nat) (c_7 : Nat) (n_8 : Int) (n_9 : Int) (n_14 : Int) (n_15 : Int) (h : H) : Prop :=
 cnd (iblt n_9 (Int.ofNat l_0))
 (natI n_9 fun m140 =>
 idxS l_0 c_0 m140 fun m141 =>
 joinB (fun k142 => gate true (ibeq (Int.ofNat m141) n_14)
 (fI (wrap .i64 (isub n_9 (Int.ofNat 1))) fun n145 =>
 natI n145 fun m146 =>
 idxS l_0 c_0 m146 fun m147 =>
 k142 (ibeq (Int.ofNat m147) n_15) h)
 (k142 false h)) fun b144 h143 =>
 cnd b144
 (J.a19 l_0 c_0 l_7 c_7 n_8 n_9 n_14 n_15 (Int.ofNat 2) h143)
 (J.a20 l_0 c_0 l_7 c_7 n_8 n_9 n_14 n_15 h143))
 (k (.int .i64 (Int.negSucc 0)) h)
noncomputable def s50_19 (_c : Caller Prop FT) (k : KV) (J : J50) (l_0 : Nat) (c_0 : Nat) (l_7 : Nat) (c_7 : Nat) (n_8 : Int) (n_9 : Int) (n_14 : Int) (n_15 : Int) (n_16 : Int) (h : H) : Prop :=
 cnd (iblt n_16 (Int.ofNat l_7))
 (fI (wrap .i64 (isub n_9 n_16)) fun n148 =>
 natI n148 fun m149 =>
 idxS l_0 c_0 m149 fun m150 =>
 fI (wrap .i64 (isub n_8 n_16)) fun n151 =>
 natI n151 fun m152 =>
 idxS l_7 c_7 m152 fun m153 =>
 cnd (bnot (ibeq (Int.ofNat m150) (Int.ofNat m153)))
 (J.a20 l_0 c_0 l_7 c_7 n_8 n_9 n_14 n_15 h)
 (fI (wrap .i64 (iadd n_16 (Int.ofNat 1))) fun n154 =>
 J.a19 l_0 c_0 l_7 c_7 n_8 n_9 n_14 n_15 n154 h))
 (fI (wrap .i64 (isub n_9 n_8)) fun n155 =>
 k (.int .i64 n155) h)
noncomputable def s50_20 (_c : Caller Prop FT) (_k : KV) (J : J50) (l_0 : Nat) (c_0 : Nat) (l_7 : Nat) (c_7 : Nat) (n_8 : Int) (n_9 : Int) (n_14 : Int) (n_15 : Int) (h : H) : Prop :=
 fI (wrap .i64 (iadd n_9 (Int.ofNat 1))) fun n156 =>
 J.a18 l_0 c_0 l_7 c_7 n_8 n156 n_14 n_15 h
noncomputable def s50_21 (_c : Caller Prop FT) (k : KV) (_J : J50) (n_8 : Int) (n_9 : Int) (n_13 : Int) (h : H) : Prop :=
 cnd (ible (Int.ofNat 0) n_13)
 (fI (wrap .i64 (iadd n_9 n_13)) fun n157 =>
 fI (wrap .i64 (isub n157 n_8)) fun n158 =>
 k (.int .i64 n158) h)
 (k (.int .i64 (Int.negSucc 0)) h)
noncomputable def s50_22 (_c : Caller Prop FT) (_k : KV) (J : J50) (l_0 : Nat) (c_0 : Nat) (l_7 : Nat) (c_7 : Nat) (n_8 : Int) (n_9 : Int) (n_14 : Int) (n_15 : Int) (h : H) : Prop :=
 J.a6 l_0 c_0 l_7 c_7 n_8 n_9 n_14 n_15 h
noncomputable def z50 : J50 := ⟨fun _ _ _ _ => False, fun _ _ => False, fun _ _ _ _ _ _ _ _ _ => False, fun _ _ _ _ _ _ _ _ _ _ => False, fun _ _ _ _ _ _ _ _ _ => False, fun _ _ _ _ _ _ _ _ _ => False, fun _ _ _ _ _ _ _ _ _ => False, fun _ _ _ _ _ _ _ _ _ _ => False, fun _ _ _ _ _ _ _ _ _ => False, fun _ _ _ _ _ _ _ _ _ => False, fun _ _ _ _ _ _ _ _ _ => False, fun _ _ _ _ _ _ _ _ _ _ => False, fun _ _ _ _ _ _ _ _ _ => False, fun _ _ _ _ _ _ _ _ => False, fun _ _ _ _ _ _ _ _ _ => False, fun _ _ _ _ _ _ _ _ _ _ => False, fun _ _ _ _ _ _ _ _ _ => False, fun _ _ _ _ _ _ _ _ _ => False, fun _ _ _ _ _ _ _ _ _ => False, fun _ _ _ _ _ _ _ _ _ _ => False, fun _ _ _ _ _ _ _ _ _ => False, fun _ _ _ _ => False, fun _ _ _ _ _ _ _ _ _ => False⟩
noncomputable def r50 (c : Caller Prop FT) (k : KV) (m : Nat) : J50 := Nat.rec z50 (fun _ J => ⟨s50_0 c k J, s50_1 c k J, s50_2 c k J, s50_3 c k J, s50_4 c k J, s50_5 c k J, s50_6 c k J, s50_7 c k J, s50_8 c k J, s50_9 c k J, s50_10 c k J, s50_11 c k J, s50_12 c k J, s50_13 c k J, s50_14 c k J, s50_15 c k J, s50_16 c k J, s50_17 c k J, s50_18 c k J, s50_19 c k J, s50_20 c k J, s50_21 c k J, s50_22 c k J⟩) m
noncomputable def f50 (J : J50) : Jump := fun L f h => match L with
  | 0 => asS (f 0) fun l_0 c_0 => asI .i32 (f 1) fun n_1 => J.a0 l_0 c_0 n_1 h
  | 1 => J.a1 (f 175) h
  | 2 => asS (f 0) fun l_0 c_0 => asI .i32 (f 1) fun n_1 => asS (f 7) fun l_7 c_7 => asI .i64 (f 8) fun n_8 => asI .i64 (f 9) fun n_9 => asI .i64 (f 10) fun n_10 => J.a2 l_0 c_0 n_1 l_7 c_7 n_8 n_9 n_10 h
  | 3 => asS (f 0) fun l_0 c_0 => asI .i32 (f 1) fun n_1 => asS (f 7) fun l_7 c_7 => asI .i64 (f 8) fun n_8 => asI .i64 (f 9) fun n_9 => asI .i64 (f 10) fun n_10 => asI .i64 (f 12) fun n_12 => J.a3 l_0 c_0 n_1 l_7 c_7 n_8 n_9 n_10 n_12 h
  | 4 => asS (f 0) fun l_0 c_0 => asI .i32 (f 1) fun n_1 => asS (f 7) fun l_7 c_7 => asI .i64 (f 8) fun n_8 => asI .i64 (f 9) fun n_9 => asI .i64 (f 10) fun n_10 => J.a4 l_0 c_0 n_1 l_7 c_7 n_8 n_9 n_10 h
  | 5 => asS (f 0) fun l_0 c_0 => asI .i32 (f 1) fun n_1 => asS (f 7) fun l_7 c_7 => asI .i64 (f 8) fun n_8 => asI .i64 (f 9) fun n_9 => asI .i64 (f 10) fun n_10 => J.a5 l_0 c_0 n_1 l_7 c_7 n_8 n_9 n_10 h
  | 6 => asS (f 0) fun l_0 c_0 => asS (f 7) fun l_7 c_7 => asI .i64 (f 8) fun n_8 => asI .i64 (f 9) fun n_9 => asI .u8 (f 14) fun n_14 => asI .u8 (f 15) fun n_15 => J.a6 l_0 c_0 l_7 c_7 n_8 n_9 n_14 n_15 h
  | 7 => asS (f 0) fun l_0 c_0 => asS (f 7) fun l_7 c_7 => asI .i64 (f 8) fun n_8 => asI .i64 (f 9) fun n_9 => asI .u8 (f 14) fun n_14 => asI .u8 (f 15) fun n_15 => asI .i64 (f 16) fun n_16 => J.a7 l_0 c_0 l_7 c_7 n_8 n_9 n_14 n_15 n_16 h
  | 8 => asS (f 0) fun l_0 c_0 => asS (f 7) fun l_7 c_7 => asI .i64 (f 8) fun n_8 => asI .i64 (f 9) fun n_9 => asI .u8 (f 14) fun n_14 => asI .u8 (f 15) fun n_15 => J.a8 l_0 c_0 l_7 c_7 n_8 n_9 n_14 n_15 h
  | 9 => asS (f 0) fun l_0 c_0 => asS (f 7) fun l_7 c_7 => asI .i64 (f 8) fun n_8 => asI .i64 (f 9) fun n_9 => asI .u8 (f 14) fun n_14 => asI .u8 (f 15) fun n_15 => J.a9 l_0 c_0 l_7 c_7 n_8 n_9 n_14 n_15 h
  | 10 => asS (f 0) fun l_0 c_0 => asS (f 7) fun l_7 c_7 => asI .i64 (f 8) fun n_8 => asI .i64 (f 9) fun n_9 => asI .u8 (f 14) fun n_14 => asI .u8 (f 15) fun n_15 => J.a10 l_0 c_0 l_7 c_7 n_8 n_9 n_14 n_15 h
  | 11 => asS (f 0) fun l_0 c_0 => asS (f 7) fun l_7 c_7 => asI .i64 (f 8) fun n_8 => asI .i64 (f 9) fun n_9 => asI .u8 (f 14) fun n_14 => asI .u8 (f 15) fun n_15 => asI .i64 (f 16) fun n_16 => J.a11 l_0 c_0 l_7 c_7 n_8 n_9 n_14 n_15 n_16 h
  | 12 => asS (f 0) fun l_0 c_0 => asS (f 7) fun l_7 c_7 => asI .i64 (f 8) fun n_8 => asI .i64 (f 9) fun n_9 => asI .u8 (f 14) fun n_14 => asI .u8 (f 15) fun n_15 => J.a12 l_0 c_0 l_7 c_7 n_8 n_9 n_14 n_15 h
  | 13 => asS (f 0) fun l_0 c_0 => asI .i32 (f 1) fun n_1 => asS (f 7) fun l_7 c_7 => asI .i64 (f 8) fun n_8 => asI .i64 (f 9) fun n_9 => J.a13 l_0 c_0 n_1 l_7 c_7 n_8 n_9 h
  | 14 => asS (f 0) fun l_0 c_0 => asS (f 7) fun l_7 c_7 => asI .i64 (f 8) fun n_8 => asI .i64 (f 9) fun n_9 => asI .u8 (f 14) fun n_14 => asI .u8 (f 15) fun n_15 => J.a14 l_0 c_0 l_7 c_7 n_8 n_9 n_14 n_15 h
  | 15 => asS (f 0) fun l_0 c_0 => asS (f 7) fun l_7 c_7 => asI .i64 (f 8) fun n_8 => asI .i64 (f 9) fun n_9 => asI .u8 (f 14) fun n_14 => asI .u8 (f 15) fun n_15 => asI .i64 (f 16) fun n_16 => J.a15 l_0 c_0 l_7 c_7 n_8 n_9 n_14 n_15 n_16 h
  | 16 => asS (f 0) fun l_0 c_0 => asS (f 7) fun l_7 c_7 => asI .i64 (f 8) fun n_8 => asI .i64 (f 9) fun n_9 => asI .u8 (f 14) fun n_14 => asI .u8 (f 15) fun n_15 => J.a16 l_0 c_0 l_7 c_7 n_8 n_9 n_14 n_15 h
  | 17 => asS (f 0) fun l_0 c_0 => asS (f 7) fun l_7 c_7 => asI .i64 (f 8) fun n_8 => asI .i64 (f 9) fun n_9 => asI .u8 (f 14) fun n_14 => asI .u8 (f 15) fun n_15 => J.a17 l_0 c_0 l_7 c_7 n_8 n_9 n_14 n_15 h
  | 18 => asS (f 0) fun l_0 c_0 => asS (f 7) fun l_7 c_7 => asI .i64 (f 8) fun n_8 => asI .i64 (f 9) fun n_9 => asI .u8 (f 14) fun n_14 => asI .u8 (f 15) fun n_15 => J.a18 l_0 c_0 l_7 c_7 n_8 n_9 n_14 n_15 h
  | 19 => asS (f 0) fun l_0 c_0 => asS (f 7) fun l_7 c_7 => asI .i64 (f 8) fun n_8 => asI .i64 (f 9) fun n_9 => asI .u8 (f 14) fun n_14 => asI .u8 (f 15) fun n_15 => asI .i64 (f 16) fun n_16 => J.a19 l_0 c_0 l_7 c_7 n_8 n_9 n_14 n_15 n_16 h
  | 20 => asS (f 0) fun l_0 c_0 => asS (f 7) fun l_7 c_7 => asI .i64 (f 8) fun n_8 => asI .i64 (f 9) fun n_9 => asI .u8 (f 14) fun n_14 => asI .u8 (f 15) fun n_15 => J.a20 l_0 c_0 l_7 c_7 n_8 n_9 n_14 n_15 h
  | 21 => asI .i64 (f 8) fun n_8 => asI .i64 (f 9) fun n_9 => asI .i64 (f 13) fun n_13 => J.a21 n_8 n_9 n_13 h
  | 22 => asS (f 0) fun l_0 c_0 => asS (f 7) fun l_7 c_7 => asI .i64 (f 8) fun n_8 => asI .i64 (f 9) fun n_9 => asI .u8 (f 14) fun n_14 => asI .u8 (f 15) fun n_15 => J.a22 l_0 c_0 l_7 c_7 n_8 n_9 n_14 n_15 h
  | _ => False
noncomputable def d50 : Code := Option.rec .skip (fun c => c) Go.Proofs.Tryd.f50.body
noncomputable def q50 : Plans := [(6, [0, 1, 2, 3, 4, 5, 6]), (7, [0, 1, 2, 3, 4, 5, 6, 7, 8]), (14, [0, 1, 2, 3, 4, 5, 6, 7, 8, 9, 10]), (31, [0, 1, 2, 3, 4, 5, 6, 7, 8, 9, 10])]
noncomputable def u50 : Cuts := [(.root, 0), ((.l (.r (.l (.l (.r (.r (.r (.l (.r .root))))))))), 1), ((.l (.l (.r (.r (.r (.r (.l (.r (.r (.r (.r (.r (.r (.l (.r .root))))))))))))))), 2), ((.l (.r (.l (.r (.l (.l (.r (.l (.l (.l (.r (.r (.r (.r (.l (.r (.r (.r (.r (.r (.r (.l (.r .root))))))))))))))))))))))), 3), ((.r (.l (.l (.r (.l (.l (.l (.r (.r (.r (.r (.l (.r (.r (.r (.r (.r (.r (.l (.r .root)))))))))))))))))))), 4), ((.lab (.l (.r (.l (.l (.l (.r (.r (.r (.r (.l (.r (.r (.r (.r (.r (.r (.l (.r .root)))))))))))))))))) 0), 5), ((.l (.r (.r (.r (.l (.r (.l (.r (.r (.r (.r (.r (.r (.r (.l (.r (.r (.r (.r (.r (.r (.l (.r .root))))))))))))))))))))))), 6), ((.l (.r (.l (.l (.r (.l (.l (.r (.l (.l (.r (.r (.r (.l (.r (.l (.r (.r (.r (.r (.r (.r (.r (.l (.r (.r (.r (.r (.r (.r (.l (.r .root)))))))))))))))))))))))))))))))), 7), ((.r (.r (.l (.l (.r (.r (.r (.l (.r (.l (.r (.r (.r (.r (.r (.r (.r (.l (.r (.r (.r (.r (.r (.r (.l (.r .root)))))))))))))))))))))))))), 8), ((.lab (.r (.l (.r (.r (.r (.r (.r (.r (.r (.l (.r (.r (.r (.r (.r (.r (.l (.r .root)))))))))))))))))) 2), 9), ((.l (.r (.lab (.r (.l (.r (.r (.r (.r (.r (.r (.r (.l (.r (.r (.r (.r (.r (.r (.l (.r .root)))))))))))))))))) 2))), 10), ((.l (.r (.l (.l (.r (.l (.l (.r (.l (.l (.r (.lab (.r (.l (.r (.r (.r (.r (.r (.r (.r (.l (.r (.r (.r (.r (.r (.r (.l (.r .root)))))))))))))))))) 2)))))))))))), 11), ((.r (.r (.l (.l (.r (.lab (.r (.l (.r (.r (.r (.r (.r (.r (.r (.l (.r (.r (.r (.r (.r (.r (.l (.r .root)))))))))))))))))) 2)))))), 12), ((.lab (.r (.r (.r (.r (.r (.r (.l (.r .root)))))))) 1), 13), ((.l (.r (.r (.r (.l (.r (.l (.r (.lab (.r (.r (.r (.r (.r (.r (.l (.r .root)))))))) 1))))))))), 14), ((.l (.r (.l (.l (.r (.l (.l (.r (.l (.l (.r (.r (.r (.l (.r (.l (.r (.lab (.r (.r (.r (.r (.r (.r (.l (.r .root)))))))) 1)))))))))))))))))), 15), ((.r (.r (.l (.l (.r (.r (.r (.l (.r (.l (.r (.lab (.r (.r (.r (.r (.r (.r (.l (.r .root)))))))) 1)))))))))))), 16), ((.lab (.r (.l (.r (.lab (.r (.r (.r (.r (.r (.r (.l (.r .root)))))))) 1)))) 2), 17), ((.l (.r (.lab (.r (.l (.r (.lab (.r (.r (.r (.r (.r (.r (.l (.r .root)))))))) 1)))) 2))), 18), ((.l (.r (.l (.l (.r (.l (.l (.r (.l (.l (.r (.lab (.r (.l (.r (.lab (.r (.r (.r (.r (.r (.r (.l (.r .root)))))))) 1)))) 2)))))))))))), 19), ((.r (.r (.l (.l (.r (.lab (.r (.l (.r (.lab (.r (.r (.r (.r (.r (.r (.l (.r .root)))))))) 1)))) 2)))))), 20), ((.r (.l (.l (.r (.r (.r (.r (.r (.r (.r (.l (.r (.r (.r (.r (.r (.r (.l (.r .root))))))))))))))))))), 21), ((.r (.r (.l (.r (.l (.r (.r (.r (.r (.r (.r (.r (.l (.r (.r (.r (.r (.r (.r (.l (.r .root))))))))))))))))))))), 22)]
/- (*strings.asciiSet).contains -/
structure J51 where
  a0 : AV → Int → H → Prop
noncomputable def s51_0 (_c : Caller Prop FT) (k : KV) (_J : J51) (v_0 : AV) (n_1 : Int) (h : H) : Prop :=
 oK (exNil v_0 h) fun v1 h2 =>
 oK (exIndexAddr env 69 v1 (natOf (.int .u8 n_1)) h2) fun v3 h4 =>
 ld1 v3 h4 fun v5 =>
 asB v5 fun b6 =>
 k (.bool b6) h4
noncomputable def z51 : J51 := ⟨fun _ _ _ => False⟩
noncomputable def r51 (c : Caller Prop FT) (k : KV) (m : Nat) : J51 := Nat.rec z51 (fun _ J => ⟨s51_0 c k J⟩) m
noncomputable def f51 (J : J51) : Jump := fun L f h => match L with
  | 0 => asI .u8 (f 1) fun n_1 => J.a0 (f 0) n_1 h
  | _ => False
noncomputable def d51 : Code := Option.rec .skip (fun c => c) Go.Proofs.Tryd.f51.body
noncomputable def q51 : Plans := []
noncomputable def u51 : Cuts := [(.root, 0)]
/- unicode/utf8.DecodeLastRuneInString -/
structure J54 where
  a0 : Nat → Nat → Int → H → Prop
  a1 : Nat → Nat → Int → H → Prop
noncomputable def s54_0 (_c : Caller Prop FT) (_k : KV) (J : J54) (l_0 : Nat) (c_0 : Nat) (n_1 : Int) (h : H) : Prop :=
 J.a1 l_0 c_0 n_1 h
noncomputable def s54_1 (_c : Caller Prop FT) (k : KV) (J : J54) (l_0 : Nat) (c_0 : Nat) (n_1 : Int) (h : H) : Prop :=
 joinB (fun k1 => gate true (iblt (Int.ofNat 0) (Int.ofNat l_0))
 (idxS l_0 c_0 0 fun m4 =>
 k1 (ibeq (Int.ofNat m4) n_1) h)
 (k1 false h)) fun b3 h2 =>
 cnd b3
 (cutS l_0 c_0 1 l_0 fun l5 c6 =>
 J.a1 l5 c6 n_1 h2)
 (k (.str l_0 c_0) h2)
noncomputable def z54 : J54 := ⟨fun _ _ _ _ => False, fun _ _ _ _ => False⟩
noncomputable def r54 (c : Caller Prop FT) (k : KV) (m : Nat) : J54 := Nat.rec z54 (fun _ J => ⟨s54_0 c k J, s54_1 c k J⟩) m
noncomputable def f54 (J : J54) : Jump := fun L f h => match L with
  | 0 => asS (f 0) fun l_0 c_0 => asI .u8 (f 1) fun n_1 => J.a0 l_0 c_0 n_1 h
  | 1 => asS (f 0) fun l_0 c_0 => asI .u8 (f 1) fun n_1 => J.a1 l_0 c_0 n_1 h
  | _ => False
noncomputable def d54 : Code := Option.rec .skip (fun c => c) Go.Proofs.Tryd.f54.body
noncomputable def q54 : Plans := []
noncomputable def u54 : Cuts := [(.root, 0), ((.l (.l (.r .root))), 1)]
/- strings.trimLeftASCII -/
structure J55 where
  a0 : Nat → Nat → AV → H → Prop
  a1 : Nat → Nat → AV → H → Prop
noncomputable def s55_0 (_c : Caller Prop FT) (_k : KV) (J : J55) (l_0 : Nat) (c_0 : Nat) (v_1 : AV) (h : H) : Prop :=
 J.a1 l_0 c_0 v_1 h
noncomputable def s55_1 (c : Caller Prop FT) (k : KV) (J : J55) (l_0 : Nat) (c_0 : Nat) (v_1 : AV) (h : H) : Prop :=
 cnd (iblt (Int.ofNat 0) (Int.ofNat l_0))
 (idxS l_0 c_0 0 fun m1 =>
 c (.func 51) [v_1, (.int .u8 (Int.ofNat m1))] h fun v2 h3 =>
 asB v2 fun b4 =>
 cnd (bnot b4)
 (k (.str l_0 c_0) h3)
 (cutS l_0 c_0 1 l_0 fun l5 c6 =>
 J.a1 l5 c6 v_1 h3))
 (k (.str l_0 c_0) h)
noncomputable def z55 : J55 := ⟨fun _ _ _ _ => False, fun _ _ _ _ => False⟩
noncomputable def r55 (c : Caller Prop FT) (k : KV) (m : Nat) : J55 := Nat.rec z55 (fun _ J => ⟨s55_0 c k J, s55_1 c k J⟩) m
noncomputable def f55 (J : J55) : Jump := fun L f h => match L with
  | 0 => asS (f 0) fun l_0 c_0 => J.a0 l_0 c_0 (f 1) h
  | 1 => asS (f 0) fun l_0 c_0 => J.a1 l_0 c_0 (f 1) h
  | _ => False
noncomputable def d55 : Code := Option.rec .skip (fun c => c) Go.Proofs.Tryd.f55.body
noncomputable def q55 : Plans := []
noncomputable def u55 : Cuts := [(.root, 0), ((.l (.l (.r .root))), 1)]
/- strings.trimLeftUnicode -/
structure J57 where
  a0 : Int → H → Prop
noncomputable def s57_0 (_c : Caller Prop FT) (k : KV) (_J : J57) (n_0 : Int) (h : H) : Prop :=
 bitI Nat.lor .u8 n_0 (Int.ofNat 32) fun n1 =>
 k (.int .u8 n1) h
noncomputable def z57 : J57 := ⟨fun _ _ => False⟩
noncomputable def r57 (c : Caller Prop FT) (k : KV) (m : Nat) : J57 := Nat.rec z57 (fun _ J => ⟨s57_0 c k J⟩) m
noncomputable def f57 (J : J57) : Jump := fun L f h => match L with
  | 0 => asI .u8 (f 0) fun n_0 => J.a0 n_0 h
  | _ => False
noncomputable def d57 : Code := Option.rec .skip (fun c => c) Go.Proofs.Tryd.f57.body
noncomputable def q57 : Plans := []
noncomputable def u57 : Cuts := [(.root, 0)]
/- internal/strconv.underscoreOK -/
structure J60 where
  a0 : Nat → Nat → Nat → Nat → H → Prop
noncomputable def s60_0 (c : Caller Prop FT) (k : KV) (_J : J60) (l_0 : Nat) (c_0 : Nat) (l_1 : Nat) (c_1 : Nat) (h : H) : Prop :=
 ld1 (.ptr (.l .z) 0) h fun v1 =>
 c (.func 75) [(.str l_1 c_1)] h fun v2 h3 =>
 asS v2 fun l4 c5 =>
 ld1 (.ptr (.l .z) 0) h3 fun v6 =>
 eqC v6 v1 <|
 oK (exBuild env (env.ty 98) [(0, (.str l_0 c_0)), (1, (.str l4 c5)), (2, v1)] h3) fun v7 h8 =>
 asG v7 fun g9 =>
 chk (Nat.ble 1 (len g9)) <|
 Hp.newK h8 (rowOf 98 g9) fun p10 h11 =>
 k (.ptr p10 0) h11
noncomputable def z60 : J60 := ⟨fun _ _ _ _ _ => False⟩
noncomputable def r60 (c : Caller Prop FT) (k : KV) (m : Nat) : J60 := Nat.rec z60 (fun _ J => ⟨s60_0 c k J⟩) m
noncomputable def f60 (J : J60) : Jump := fun L f h => match L with
  | 0 => asS (f 0) fun l_0 c_0 => asS (f 1) fun l_1 c_1 => J.a0 l_0 c_0 l_1 c_1 h
  | _ => False
noncomputable def d60 : Code := Option.rec .skip (fun c => c) Go.Proofs.Tryd.f60.body
noncomputable def q60 : Plans := [(1, [0, 1, 3, 2, 4, 5, 6])]
noncomputable def u60 : Cuts := [(.root, 0)]
/- strconv.baseError -/
structure J63 where
  a0 : Nat → Nat → Nat → Nat → H → Prop
noncomputable def s63_0 (c : Caller Prop FT) (k : KV) (_J : J63) (l_0 : Nat) (c_0 : Nat) (l_1 : Nat) (c_1 : Nat) (h : H) : Prop :=
 c (.func 41) [(.str l_0 c_0), (.str l_1 c_1)] h fun v1 h2 =>
 asB v1 fun b3 =>
 cnd (bnot b3)
 (k (.tuple [(.str l_0 c_0), (.bool false)]) h2)
 (cutS l_0 c_0 l_1 l_0 fun l4 c5 =>
 k (.tuple [(.str l4 c5), (.bool true)]) h2)
noncomputable def z63 : J63 := ⟨fun _ _ _ _ _ => False⟩
noncomputable def r63 (c : Caller Prop FT) (k : KV) (m : Nat) : J63 := Nat.rec z63 (fun _ J => ⟨s63_0 c k J⟩) m
noncomputable def f63 (J : J63) : Jump := fun L f h => match L with
  | 0 => asS (f 0) fun l_0 c_0 => asS (f 1) fun l_1 c_1 => J.a0 l_0 c_0 l_1 c_1 h
  | _ => False
noncomputable def d63 : Code := Option.rec .skip (fun c => c) Go.Proofs.Tryd.f63.body
noncomputable def q63 : Plans := []
noncomputable def u63 : Cuts := [(.root, 0)]
/- internal/stringslite.IndexByte -/
structure J65 where
  a0 : Nat → Nat → Int → H → Prop
noncomputable def s65_0 (c : Caller Prop FT) (k : KV) (_J : J65) (l_0 : Nat) (c_0 : Nat) (n_1 : Int) (h : H) : Prop :=
 c (.func 78) [(.str l_0 c_0), (.int .u8 n_1)] h fun v1 h2 =>
 asI .i64 v1 fun n3 =>
 k (.int .i64 n3) h2
noncomputable def z65 : J65 := ⟨fun _ _ _ _ => False⟩
noncomputable def r65 (c : Caller Prop FT) (k : KV) (m : Nat) : J65 := Nat.rec z65 (fun _ J => ⟨s65_0 c k J⟩) m
noncomputable def f65 (J : J65) : Jump := fun L f h => match L with
  | 0 => asS (f 0) fun l_0 c_0 => asI .u8 (f 1) fun n_1 => J.a0 l_0 c_0 n_1 h
  | _ => False
noncomputable def d65 : Code := Option.rec .skip (fun c => c) Go.Proofs.Tryd.f65.body
noncomputable def q65 : Plans := []
noncomputable def u65 : Cuts := [(.root, 0)]
/- (*strings.Builder).Grow -/
structure J66 where
  a0 : AV → Int → H → Prop
  a1 : AV → Int → H → Prop
noncomputable def s66_0 (c : Caller Prop FT) (_k : KV) (J : J66) (v_0 : AV) (n_1 : Int) (h : H) : Prop :=
 c (.func 47) [v_0] h fun _ h2 =>
 cnd (iblt n_1 (Int.ofNat 0))
 (False)
 (J.a1 v_0 n_1 h2)
noncomputable def s66_1 (c : Caller Prop FT) (k : KV) (_J : J66) (v_0 : AV) (n_1 : Int) (h : H) : Prop :=
 oK (exNil v_0 h) fun v3 h4 =>
 fAddr 1 v3 fun v5 =>
 ld1 v5 h4 fun v6 =>
 oK (builtinA env .cap [37] [v6] h4) fun v7 h8 =>
 asI .i64 v7 fun n9 =>
 oK (exNil v_0 h8) fun v10 h11 =>
 fAddr 1 v10 fun v12 =>
 ld1 v12 h11 fun v13 =>
 lenV v13 fun m14 =>
 fI (wrap .i64 (isub n9 (Int.ofNat m14))) fun n15 =>
 cnd (iblt n15 n_1)
 (c (.func 79) [v_0, (.int .i64 n_1)] h11 fun _ h17 =>
 k (.tuple []) h17)
 (k (.tuple []) h11)
noncomputable def z66 : J66 := ⟨fun _ _ _ => False, fun _ _ _ => False⟩
noncomputable def r66 (c : Caller Prop FT) (k : KV) (m : Nat) : J66 := Nat.rec z66 (fun _ J => ⟨s66_0 c k J, s66_1 c k J⟩) m
noncomputable def f66 (J : J66) : Jump := fun L f h => match L with
  | 0 => asI .i64 (f 1) fun n_1 => J.a0 (f 0) n_1 h
  | 1 => asI .i64 (f 1) fun n_1 => J.a1 (f 0) n_1 h
  | _ => False
noncomputable def d66 : Code := Option.rec .skip (fun c => c) Go.Proofs.Tryd.f66.body
noncomputable def q66 : Plans := [(3, [0, 1, 2, 3, 4, 5, 6, 7, 8, 9, 10, 11, 12])]
noncomputable def u66 : Cuts := [(.root, 0), ((.r (.r .root)), 1)]
/- (*strings.Builder).WriteString -/
structure J67 where
  a0 : AV → Nat → Nat → H → Prop
noncomputable def s67_0 (c : Caller Prop FT) (k : KV) (_J : J67) (v_0 : AV) (l_1 : Nat) (c_1 : Nat) (h : H) : Prop :=
 c (.func 47) [v_0] h fun _ h2 =>
 oK (exNil v_0 h2) fun v3 h4 =>
 fAddr 1 v3 fun v5 =>
 ld1 v5 h4 fun v6 =>
 oK (builtinA env .append [37, 9] [v6, (.str l_1 c_1)] h4) fun v7 h8 =>
 oK (exNil v_0 h8) fun v9 h10 =>
 fAddr 1 v9 fun v11 =>
 st1 v11 v7 h10 fun h12 =>
 k (.tuple [(.int .i64 (Int.ofNat l_1)), .nili]) h12
noncomputable def z67 : J67 := ⟨fun _ _ _ _ => False⟩
noncomputable def r67 (c : Caller Prop FT) (k : KV) (m : Nat) : J67 := Nat.rec z67 (fun _ J => ⟨s67_0 c k J⟩) m
noncomputable def f67 (J : J67) : Jump := fun L f h => match L with
  | 0 => asS (f 1) fun l_1 c_1 => J.a0 (f 0) l_1 c_1 h
  | _ => False
noncomputable def d67 : Code := Option.rec .skip (fun c => c) Go.Proofs.Tryd.f67.body
noncomputable def q67 : Plans := []
noncomputable def u67 : Cuts := [(.root, 0)]
/- strings.Map -/
structure J75 where
  a0 : Nat → Nat → H → Prop
noncomputable def s75_0 (_c : Caller Prop FT) (k : KV) (_J : J75) (l_0 : Nat) (c_0 : Nat) (h : H) : Prop :=
 cnd (ibeq (Int.ofNat l_0) (Int.ofNat 0))
 (k (.str 0 0) h)
 (oK (withElem env 37 (fun e ei => exMakeSlice (natOf (.int .i64 (Int.ofNat l_0))) (natOf (.int .i64 (Int.ofNat l_0))) h e ei)) fun v1 h2 =>
 oK (builtinA env .copy [37, 9] [v1, (.str l_0 c_0)] h2) fun v3 h4 =>
 asI .i64 v3 fun _ =>
 elemA 1 0 v1 fun v6 =>
 lenV v1 fun m7 =>
 oK (builtinA env .unsafeString [76, 3] [v6, (.int .i64 (Int.ofNat m7))] h4) fun v8 h9 =>
 asS v8 fun l10 c11 =>
 k (.str l10 c11) h9)
noncomputable def z75 : J75 := ⟨fun _ _ _ => False⟩
noncomputable def r75 (c : Caller Prop FT) (k : KV) (m : Nat) : J75 := Nat.rec z75 (fun _ J => ⟨s75_0 c k J⟩) m
noncomputable def f75 (J : J75) : Jump := fun L f h => match L with
  | 0 => asS (f 0) fun l_0 c_0 => J.a0 l_0 c_0 h
  | _ => False
noncomputable def d75 : Code := Option.rec .skip (fun c => c) Go.Proofs.Tryd.f75.body
noncomputable def q75 : Plans := []
noncomputable def u75 : Cuts := [(.root, 0)]
/- errors.New -/
structure J79 where
  a0 : AV → Int → H → Prop
noncomputable def s79_0 (c : Caller Prop FT) (k : KV) (_J : J79) (v_0 : AV) (n_1 : Int) (h : H) : Prop :=
 oK (exNil v_0 h) fun v1 h2 =>
 fAddr 1 v1 fun v3 =>
 ld1 v3 h2 fun v4 =>
 oK (builtinA env .cap [37] [v4] h2) fun v5 h6 =>
 asI .i64 v5 fun n7 =>
 fI (wrap .i64 ((Int.ofNat 2) * n7)) fun n8 =>
 fI (wrap .i64 (iadd n8 n_1)) fun n9 =>
 oK (exNil v_0 h6) fun v10 h11 =>
 fAddr 1 v10 fun v12 =>
 ld1 v12 h11 fun v13 =>
 lenV v13 fun m14 =>
 c (.func 86) [(.int .i64 n9)] h11 fun v15 h16 =>
 ld1 v12 h16 fun v17 =>
 eqC v17 v13 <|
 oK (slice3 env h16 37 v15 none (some (natOf (.int .i64 (Int.ofNat m14)))) none) fun v18 h19 =>
 oK (exNil v_0 h19) fun v20 h21 =>
 fAddr 1 v20 fun v22 =>
 ld1 v22 h21 fun v23 =>
 oK (builtinA env .copy [37, 37] [v18, v23] h21) fun v24 h25 =>
 asI .i64 v24 fun _ =>
 oK (exNil v_0 h25) fun v27 h28 =>
 fAddr 1 v27 fun v29 =>
 st1 v29 v18 h28 fun h30 =>
 k (.tuple []) h30
noncomputable def z79 : J79 := ⟨fun _ _ _ => False⟩
noncomputable def r79 (c : Caller Prop FT) (k : KV) (m : Nat) : J79 := Nat.rec z79 (fun _ J => ⟨s79_0 c k J⟩) m
noncomputable def f79 (J : J79) : Jump := fun L f h => match L with
  | 0 => asI .i64 (f 1) fun n_1 => J.a0 (f 0) n_1 h
  | _ => False
noncomputable def d79 : Code := Option.rec .skip (fun c => c) Go.Proofs.Tryd.f79.body
noncomputable def q79 : Plans := [(0, [0, 1, 2, 3, 4, 5, 6, 7, 9, 10, 11, 12, 13, 8, 14, 15])]
noncomputable def u79 : Cuts := [(.root, 0)]
/- unicode/utf8.RuneLen -/
end Go.Den
