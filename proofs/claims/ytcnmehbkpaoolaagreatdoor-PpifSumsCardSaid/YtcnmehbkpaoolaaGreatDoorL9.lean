/-
  A part of the proof: the law, in pieces.
-/
import Derived.Test.YtcnmehbkpaoolaaGreatDoorRunE
import Derived.KernelRfl
noncomputable section
namespace Go.Den
open Go.Proofs
set_option maxRecDepth 100000
def d9 : Code := Option.rec .skip (fun c => c) Tryz.f9.body
def q9 : An := []
structure J9 where
  a0 : Int → Int → Int → Bool → H → Prop
  a1 : Int → Bool → AV → AV → Bool → AV → Bool → Int → H → Prop
  a2 : Int → Bool → AV → AV → Bool → AV → Bool → Int → Bool → H → Prop
  a3 : Int → Int → Int → Bool → AV → Nat → Nat → AV → Bool → AV → Bool → Int → Int → Bool → H → Prop
  a4 : Int → Int → Int → Bool → AV → Nat → Nat → AV → Bool → AV → Bool → Int → Int → Bool → Bool → H → Prop
def Ave (c : CF) (_k : KV) (J : J9) (n_0 n_1 n_2 : Int) (b_3 : Bool) (h : H) : Prop :=
 oK (Ak env 44 (fun e ei => Ae 12 [(0, (.str 1 43)), (1, (.str 1 45)), (2, (.str 1 42)), (3, (.str 1 38)), (4, (.str 1 124)), (5, (.str 1 94)), (6, (.str 2 15677)), (7, (.str 2 15649)), (8, (.str 1 60)), (9, (.str 1 62)), (10, (.str 2 15676)), (11, (.str 2 15678))] h e ei)) fun v1 h2 =>
 Gg v1 fun m3 =>
 c (.func 23) [(.int .i64 n_2), (.int .i64 (Int.ofNat m3))] h2 fun v4 h5 =>
 asI .i64 v4 fun n6 =>
 De n6 fun m7 =>
 Cc 1 m7 v1 fun v8 =>
 ld1 v8 h5 fun v9 =>
 asS v9 fun l10 c11 =>
 c (.func 28) [(.int .i64 n_0), (.bool false)] h5 fun v12 h13 =>
 asS v12 fun l14 c15 =>
 c (.func 28) [(.int .i64 n_1), (.bool b_3)] h13 fun v16 h17 =>
 asS v16 fun l18 c19 =>
 Dn l14 c15 1 32 fun l20 c21 =>
 Dn l20 c21 l10 c11 fun l22 c23 =>
 Dn l22 c23 1 32 fun l24 c25 =>
 Dn l24 c25 l18 c19 fun l26 c27 =>
 c (.func 29) [(.str l26 c27)] h17 fun v28 h29 =>
 c (.func 26) [v28] h29 fun v30 h31 =>
 ext 0 v30 fun v32 =>
 ext 1 v30 fun v33 =>
 asB v33 fun b34 =>
 Hp.Dm h31 Dd fun p35 h36 =>
 stn 2 (.ptr p35 0) v32 h36 fun h37 =>
 Dn 2 10280 l14 c15 fun l38 c39 =>
 Dn l38 c39 1 41 fun l40 c41 =>
 Dn l40 c41 l10 c11 fun l42 c43 =>
 Dn l42 c43 1 40 fun l44 c45 =>
 Dn l44 c45 l18 c19 fun l46 c47 =>
 Dn l46 c47 2 10537 fun l48 c49 =>
 c (.func 29) [(.str l48 c49)] h37 fun v50 h51 =>
 c (.func 26) [v50] h51 fun v52 h53 =>
 ext 0 v52 fun v54 =>
 ext 1 v52 fun v55 =>
 asB v55 fun b56 =>
 Hp.Dm h53 Dd fun p57 h58 =>
 stn 2 (.ptr p57 0) v54 h58 fun h59 =>
 fI (wrap .u64 n_0) fun n60 =>
 fI (wrap .u64 n_1) fun n61 =>
 J.a4 n_0 n_1 n_2 b_3 v1 l10 c11 (.ptr p35 0) b34 (.ptr p57 0) b56 n60 n61 (Cs n_0 n_1) b_3 h59
def Avd (c : CF) (k : KV) (_J : J9) (n_2 : Int) (b_3 : Bool) (v_9 v_13 : AV) (b_14 : Bool) (v_15 : AV) (b_16 : Bool) (n_20 : Int) (h : H) : Prop :=
 Gg v_9 fun m62 =>
 c (.func 23) [(.int .i64 n_2), (.int .i64 (Int.ofNat m62))] h fun v63 h64 =>
 asI .i64 v63 fun n65 =>
 Al (fun k66 => gate true b_14
 (k66 b_16 h64)
 (k66 false h64)) fun b68 h67 =>
 Al (fun k69 => gate true b68
 (ldn 2 v_13 h67 fun v72 =>
 ldn 2 v_15 h67 fun v73 =>
 oV (Hi env .eql 55 v72 v73) fun v74 =>
 asB v74 fun b75 =>
 k69 b75 h67)
 (k69 false h67)) fun b71 h70 =>
 Al (fun k76 => gate true b71
 (Ao 0 v_13 fun v79 =>
 ld1 v79 h70 fun v80 =>
 asI .u64 v80 fun n81 =>
 k76 (Av n81 n_20) h70)
 (k76 false h70)) fun b78 h77 =>
 Al (fun k82 => gate true b78
 (Ao 1 v_13 fun v85 =>
 ld1 v85 h77 fun v86 =>
 asB v86 fun b87 =>
 Al (fun k88 => gate true b_3
 (k88 (Ck (Gu (Int.ofNat 6) n65)) h77)
 (k88 false h77)) fun b90 h89 =>
 oV (Hi env .eql 4 (.bool b87) (.bool b90)) fun v91 =>
 asB v91 fun b92 =>
 k82 b92 h89)
 (k82 false h77)) fun b84 h83 =>
 Al (fun k93 => gate true b84
 (c (.func 25) [] h83 fun v96 h97 =>
 asB v96 fun b98 =>
 k93 b98 h97)
 (k93 false h83)) fun b95 h94 =>
 k (.bool b95) h94
def Avc (_c : CF) (_k : KV) (J : J9) (n_2 : Int) (b_3 : Bool) (v_9 v_13 : AV) (b_14 : Bool) (v_15 : AV) (b_16 : Bool) (n_20 : Int) (b_21 : Bool) (h : H) : Prop :=
 cnd b_21
 (J.a1 n_2 b_3 v_9 v_13 b_14 v_15 b_16 (Int.ofNat 1) h)
 (J.a1 n_2 b_3 v_9 v_13 b_14 v_15 b_16 n_20 h)
def Avb (_c : CF) (_k : KV) (J : J9) (n_0 n_1 n_2 : Int) (b_3 : Bool) (v_9 : AV) (l_10 c_10 : Nat) (v_13 : AV) (b_14 : Bool) (v_15 : AV) (b_16 : Bool) (n_17 n_18 : Int) (b_19 : Bool) (h : H) : Prop :=
 cnd (Bm l_10 c_10 1 43)
 (fI (wrap .u64 (Cf n_17 n_18)) fun n99 =>
 J.a2 n_2 b_3 v_9 v_13 b_14 v_15 b_16 n99 false h)
 (cnd (Bm l_10 c_10 1 45)
 (fI (wrap .u64 (Kv n_17 n_18)) fun n100 =>
 J.a2 n_2 b_3 v_9 v_13 b_14 v_15 b_16 n100 false h)
 (cnd (Bm l_10 c_10 1 42)
 (fI (wrap .u64 (n_17 * n_18)) fun n101 =>
 J.a2 n_2 b_3 v_9 v_13 b_14 v_15 b_16 n101 false h)
 (cnd (Bm l_10 c_10 1 38)
 (Ml Nat.land .u64 n_17 n_18 fun n102 =>
 J.a2 n_2 b_3 v_9 v_13 b_14 v_15 b_16 n102 false h)
 (cnd (Bm l_10 c_10 1 124)
 (Ml Nat.lor .u64 n_17 n_18 fun n103 =>
 J.a2 n_2 b_3 v_9 v_13 b_14 v_15 b_16 n103 false h)
 (cnd (Bm l_10 c_10 1 94)
 (Ml Nat.xor .u64 n_17 n_18 fun n104 =>
 J.a2 n_2 b_3 v_9 v_13 b_14 v_15 b_16 n104 false h)
 (cnd (Bm l_10 c_10 2 15677)
 (J.a2 n_2 b_3 v_9 v_13 b_14 v_15 b_16 (Int.ofNat 0) (Av n_0 n_1) h)
 (cnd (Bm l_10 c_10 2 15649)
 (J.a2 n_2 b_3 v_9 v_13 b_14 v_15 b_16 (Int.ofNat 0) (Ck (Av n_0 n_1)) h)
 (cnd (Bm l_10 c_10 1 60)
 (J.a2 n_2 b_3 v_9 v_13 b_14 v_15 b_16 (Int.ofNat 0) b_19 h)
 (cnd (Bm l_10 c_10 1 62)
 (Al (fun k105 => gate true (Ck b_19)
 (k105 (Ck (Av n_0 n_1)) h)
 (k105 false h)) fun b107 h106 =>
 J.a2 n_2 b_3 v_9 v_13 b_14 v_15 b_16 (Int.ofNat 0) b107 h106)
 (cnd (Bm l_10 c_10 2 15676)
 (Al (fun k108 => gate false b_19
 (k108 (Av n_0 n_1) h)
 (k108 true h)) fun b110 h109 =>
 J.a2 n_2 b_3 v_9 v_13 b_14 v_15 b_16 (Int.ofNat 0) b110 h109)
 (cnd (Bm l_10 c_10 2 15678)
 (J.a2 n_2 b_3 v_9 v_13 b_14 v_15 b_16 (Int.ofNat 0) (Ck b_19) h)
 (J.a2 n_2 b_3 v_9 v_13 b_14 v_15 b_16 (Int.ofNat 0) false h))))))))))))
def Ava (_c : CF) (_k : KV) (J : J9) (n_0 n_1 n_2 : Int) (b_3 : Bool) (v_9 : AV) (l_10 c_10 : Nat) (v_13 : AV) (b_14 : Bool) (v_15 : AV) (b_16 : Bool) (n_17 n_18 : Int) (b_19 b_69 : Bool) (h : H) : Prop :=
 cnd b_69
 (J.a3 n_0 n_1 n_2 b_3 v_9 l_10 c_10 v_13 b_14 v_15 b_16 n_17 n_18 (Cs n_17 n_18) h)
 (J.a3 n_0 n_1 n_2 b_3 v_9 l_10 c_10 v_13 b_14 v_15 b_16 n_17 n_18 b_19 h)
def z9 : J9 := ⟨fun _ _ _ _ _ => False, fun _ _ _ _ _ _ _ _ _ => False, fun _ _ _ _ _ _ _ _ _ _ => False, fun _ _ _ _ _ _ _ _ _ _ _ _ _ _ _ => False, fun _ _ _ _ _ _ _ _ _ _ _ _ _ _ _ _ => False⟩
def r9 (c : CF) (k : KV) (m : Nat) : J9 := Nat.rec z9 (fun _ J => ⟨Ave c k J, Avd c k J, Avc c k J, Avb c k J, Ava c k J⟩) m
def f9 (J : J9) : Jump := fun L f h => match L with
  | 0 => asI .i64 (f 0) fun n_0 => asI .i64 (f 1) fun n_1 => asI .i64 (f 2) fun n_2 => asB (f 3) fun b_3 => J.a0 n_0 n_1 n_2 b_3 h
  | 1 => asI .i64 (f 2) fun n_2 => asB (f 3) fun b_3 => asB (f 14) fun b_14 => asB (f 16) fun b_16 => asI .u64 (f 20) fun n_20 => J.a1 n_2 b_3 (f 9) (f 13) b_14 (f 15) b_16 n_20 h
  | 2 => asI .i64 (f 2) fun n_2 => asB (f 3) fun b_3 => asB (f 14) fun b_14 => asB (f 16) fun b_16 => asI .u64 (f 20) fun n_20 => asB (f 21) fun b_21 => J.a2 n_2 b_3 (f 9) (f 13) b_14 (f 15) b_16 n_20 b_21 h
  | 3 => asI .i64 (f 0) fun n_0 => asI .i64 (f 1) fun n_1 => asI .i64 (f 2) fun n_2 => asB (f 3) fun b_3 => asS (f 10) fun l_10 c_10 => asB (f 14) fun b_14 => asB (f 16) fun b_16 => asI .u64 (f 17) fun n_17 => asI .u64 (f 18) fun n_18 => asB (f 19) fun b_19 => J.a3 n_0 n_1 n_2 b_3 (f 9) l_10 c_10 (f 13) b_14 (f 15) b_16 n_17 n_18 b_19 h
  | 4 => asI .i64 (f 0) fun n_0 => asI .i64 (f 1) fun n_1 => asI .i64 (f 2) fun n_2 => asB (f 3) fun b_3 => asS (f 10) fun l_10 c_10 => asB (f 14) fun b_14 => asB (f 16) fun b_16 => asI .u64 (f 17) fun n_17 => asI .u64 (f 18) fun n_18 => asB (f 19) fun b_19 => asB (f 69) fun b_69 => J.a4 n_0 n_1 n_2 b_3 (f 9) l_10 c_10 (f 13) b_14 (f 15) b_16 n_17 n_18 b_19 b_69 h
  | _ => False
def u9 : Ax := [(.root, 0), ((.r (.r (.r (.r (.r (.r (.r (.r (.r (.r (.r (.r (.r .root))))))))))))), 1), ((.r (.r (.r (.r (.r (.r (.r (.r (.r (.r (.r (.r .root)))))))))))), 2), ((.r (.r (.r (.r (.r (.r (.r (.r (.r .root))))))))), 3), ((.r (.l (.r (.r (.r (.r (.r (.r (.r (.r .root)))))))))), 4)]
section
variable {c : CF} {k : KV} {f : FT} {h : H}
theorem Bih (J : J9) (n_0 n_1 n_2 : Int) (b_3 : Bool) : zqe c k q9 u9 (f9 J) d9 Tryz.f9 .root (Af (Af (Af (Af f 0 (.int .i64 n_0)) 1 (.int .i64 n_1)) 2 (.int .i64 n_2)) 3 (.bool b_3)) h = Ave c k J n_0 n_1 n_2 b_3 h := by kernel_rfl
theorem Big (J : J9) (n_2 : Int) (b_3 b_14 b_16 : Bool) (n_20 : Int) : zqe c k q9 u9 (f9 J) d9 Tryz.f9 (.r (.r (.r (.r (.r (.r (.r (.r (.r (.r (.r (.r (.r .root))))))))))))) (Af (Af (Af (Af (Af f 2 (.int .i64 n_2)) 3 (.bool b_3)) 14 (.bool b_14)) 16 (.bool b_16)) 20 (.int .u64 n_20)) h = Avd c k J n_2 b_3 (f 9) (f 13) b_14 (f 15) b_16 n_20 h := by kernel_rfl
theorem Bif (J : J9) (n_2 : Int) (b_3 b_14 b_16 : Bool) (n_20 : Int) (b_21 : Bool) : zqe c k q9 u9 (f9 J) d9 Tryz.f9 (.r (.r (.r (.r (.r (.r (.r (.r (.r (.r (.r (.r .root)))))))))))) (Af (Af (Af (Af (Af (Af f 2 (.int .i64 n_2)) 3 (.bool b_3)) 14 (.bool b_14)) 16 (.bool b_16)) 20 (.int .u64 n_20)) 21 (.bool b_21)) h = Avc c k J n_2 b_3 (f 9) (f 13) b_14 (f 15) b_16 n_20 b_21 h := by kernel_rfl
theorem Bie (J : J9) (n_0 n_1 n_2 : Int) (b_3 : Bool) (l_10 c_10 : Nat) (b_14 b_16 : Bool) (n_17 n_18 : Int) (b_19 : Bool) : zqe c k q9 u9 (f9 J) d9 Tryz.f9 (.r (.r (.r (.r (.r (.r (.r (.r (.r .root))))))))) (Af (Af (Af (Af (Af (Af (Af (Af (Af (Af f 0 (.int .i64 n_0)) 1 (.int .i64 n_1)) 2 (.int .i64 n_2)) 3 (.bool b_3)) 10 (.str l_10 c_10)) 14 (.bool b_14)) 16 (.bool b_16)) 17 (.int .u64 n_17)) 18 (.int .u64 n_18)) 19 (.bool b_19)) h = Avb c k J n_0 n_1 n_2 b_3 (f 9) l_10 c_10 (f 13) b_14 (f 15) b_16 n_17 n_18 b_19 h := by kernel_rfl
theorem Bid (J : J9) (n_0 n_1 n_2 : Int) (b_3 : Bool) (l_10 c_10 : Nat) (b_14 b_16 : Bool) (n_17 n_18 : Int) (b_19 b_69 : Bool) : zqe c k q9 u9 (f9 J) d9 Tryz.f9 (.r (.l (.r (.r (.r (.r (.r (.r (.r (.r .root)))))))))) (Af (Af (Af (Af (Af (Af (Af (Af (Af (Af (Af f 0 (.int .i64 n_0)) 1 (.int .i64 n_1)) 2 (.int .i64 n_2)) 3 (.bool b_3)) 10 (.str l_10 c_10)) 14 (.bool b_14)) 16 (.bool b_16)) 17 (.int .u64 n_17)) 18 (.int .u64 n_18)) 19 (.bool b_19)) 69 (.bool b_69)) h = Ava c k J n_0 n_1 n_2 b_3 (f 9) l_10 c_10 (f 13) b_14 (f 15) b_16 n_17 n_18 b_19 b_69 h := by kernel_rfl
theorem w9 (hc : Bg c) {n : Nat} {a : List AV} (hg : f9 (r9 c k n) 0 (Ab a) h) : zqs 9 a h k :=
 zqw hc q9 Tryz.func9 rfl (by kernel_rfl) (by kernel_rfl) k u9 (fun n => f9 (r9 c k n)) (fun L _ _ hl => match L, hl with
  | 0, hl => Bj hl fun _ hl => Bj hl fun _ hl => Bj hl fun _ hl => Cy hl fun _ hl => hl
  | 1, hl => Bj hl fun _ hl => Cy hl fun _ hl => Cy hl fun _ hl => Cy hl fun _ hl => Bj hl fun _ hl => hl
  | 2, hl => Bj hl fun _ hl => Cy hl fun _ hl => Cy hl fun _ hl => Cy hl fun _ hl => Bj hl fun _ hl => Cy hl fun _ hl => hl
  | 3, hl => Bj hl fun _ hl => Bj hl fun _ hl => Bj hl fun _ hl => Cy hl fun _ hl => Cq hl fun _ _ hl => Cy hl fun _ hl => Cy hl fun _ hl => Bj hl fun _ hl => Bj hl fun _ hl => Cy hl fun _ hl => hl
  | 4, hl => Bj hl fun _ hl => Bj hl fun _ hl => Bj hl fun _ hl => Cy hl fun _ hl => Cq hl fun _ _ hl => Cy hl fun _ hl => Cy hl fun _ hl => Bj hl fun _ hl => Bj hl fun _ hl => Cy hl fun _ hl => Cy hl fun _ hl => hl
  | _ + 5, hl => hl) (fun n => ⟨
  fun f h hl => by
    refine Bi 0 hl fun _ hl => ?_; refine Bi 1 hl fun _ hl => ?_; refine Bi 2 hl fun _ hl => ?_; refine Cw 3 hl fun _ hl => ?_; exact Eq.mpr (Bih ..) hl,
  fun f h hl => by
    refine Bi 2 hl fun _ hl => ?_; refine Cw 3 hl fun _ hl => ?_; refine Cw 14 hl fun _ hl => ?_; refine Cw 16 hl fun _ hl => ?_; refine Bi 20 hl fun _ hl => ?_; exact Eq.mpr (Big ..) hl,
  fun f h hl => by
    refine Bi 2 hl fun _ hl => ?_; refine Cw 3 hl fun _ hl => ?_; refine Cw 14 hl fun _ hl => ?_; refine Cw 16 hl fun _ hl => ?_; refine Bi 20 hl fun _ hl => ?_; refine Cw 21 hl fun _ hl => ?_; exact Eq.mpr (Bif ..) hl,
  fun f h hl => by
    refine Bi 0 hl fun _ hl => ?_; refine Bi 1 hl fun _ hl => ?_; refine Bi 2 hl fun _ hl => ?_; refine Cw 3 hl fun _ hl => ?_; refine Cp 10 hl fun _ _ hl => ?_; refine Cw 14 hl fun _ hl => ?_; refine Cw 16 hl fun _ hl => ?_; refine Bi 17 hl fun _ hl => ?_; refine Bi 18 hl fun _ hl => ?_; refine Cw 19 hl fun _ hl => ?_; exact Eq.mpr (Bie ..) hl,
  fun f h hl => by
    refine Bi 0 hl fun _ hl => ?_; refine Bi 1 hl fun _ hl => ?_; refine Bi 2 hl fun _ hl => ?_; refine Cw 3 hl fun _ hl => ?_; refine Cp 10 hl fun _ _ hl => ?_; refine Cw 14 hl fun _ hl => ?_; refine Cw 16 hl fun _ hl => ?_; refine Bi 17 hl fun _ hl => ?_; refine Bi 18 hl fun _ hl => ?_; refine Cw 19 hl fun _ hl => ?_; refine Cw 69 hl fun _ hl => ?_; exact Eq.mpr (Bid ..) hl,
  trivial⟩) rfl hg
end
theorem g9 {c : CF} {k : KV} {n : Nat} {n_0 n_1 n_2 : Int} {b_3 : Bool} {h : H} (hg : Ave c k (r9 c k n) n_0 n_1 n_2 b_3 h) : f9 (r9 c k (n + 1)) 0 (Ab [.int .i64 n_0, .int .i64 n_1, .int .i64 n_2, .bool b_3]) h := hg
theorem Bgs {c : CF} {k : KV} {n : Nat} {x0 : Int} {x1 : Bool} {x2 x3 : AV} {x4 : Bool} {x5 : AV} {x6 : Bool} {x7 : Int} {h : H} (hg : Avd c k (r9 c k n) x0 x1 x2 x3 x4 x5 x6 x7 h) : (r9 c k (n + 1)).a1 x0 x1 x2 x3 x4 x5 x6 x7 h := hg
theorem Bgr {c : CF} {k : KV} {n : Nat} {x0 : Int} {x1 : Bool} {x2 x3 : AV} {x4 : Bool} {x5 : AV} {x6 : Bool} {x7 : Int} {x8 : Bool} {h : H} (hg : Avc c k (r9 c k n) x0 x1 x2 x3 x4 x5 x6 x7 x8 h) : (r9 c k (n + 1)).a2 x0 x1 x2 x3 x4 x5 x6 x7 x8 h := hg
theorem Bgq {c : CF} {k : KV} {n : Nat} {x0 x1 x2 : Int} {x3 : Bool} {x4 : AV} {x5 x6 : Nat} {x7 : AV} {x8 : Bool} {x9 : AV} {x10 : Bool} {x11 x12 : Int} {x13 : Bool} {h : H} (hg : Avb c k (r9 c k n) x0 x1 x2 x3 x4 x5 x6 x7 x8 x9 x10 x11 x12 x13 h) : (r9 c k (n + 1)).a3 x0 x1 x2 x3 x4 x5 x6 x7 x8 x9 x10 x11 x12 x13 h := hg
theorem Bgp {c : CF} {k : KV} {n : Nat} {x0 x1 x2 : Int} {x3 : Bool} {x4 : AV} {x5 x6 : Nat} {x7 : AV} {x8 : Bool} {x9 : AV} {x10 : Bool} {x11 x12 : Int} {x13 x14 : Bool} {h : H} (hg : Ava c k (r9 c k n) x0 x1 x2 x3 x4 x5 x6 x7 x8 x9 x10 x11 x12 x13 x14 h) : (r9 c k (n + 1)).a4 x0 x1 x2 x3 x4 x5 x6 x7 x8 x9 x10 x11 x12 x13 x14 h := hg
end Go.Den
