/-
 Part of the proof.
-/
import Derived.Test.YtcnmehbkpaoolaaGreatDoorRunE
import Derived.KernelRfl
noncomputable section
namespace Go.Den
open Go.Proofs
set_option maxRecDepth 100000
def d24 : Code := Option.rec .skip (fun c => c) Tryz.f24.body
def q24 : Av := []
structure J24 where
 a0 : Nat → Nat → H → Prop
 a1 : Nat → Nat → AV → Int → H → Prop
 a2 : Nat → Nat → AV → Int → H → Prop
def Anv (_c : CF) (_k : KV) (J : J24) (l_0 c_0 : Nat) (h : H) : Prop :=
 oK (An env 115 (fun e ei => Aj 1 [(0, (.int .u8 (Int.ofNat 34)))] h e ei)) fun v1 h2 =>
 J.a1 l_0 c_0 v1 (Int.ofNat 0) h2
def Anu (_c : CF) (k : KV) (J : J24) (l_0 c_0 : Nat) (v_3 : AV) (n_4 : Int) (h : H) : Prop :=
 cnd (Cs n_4 (Int.ofNat l_0))
 (Ci n_4 fun m3 =>
 Dn l_0 c_0 m3 fun m4 =>
 Am (fun k5 => gate false (Az (Int.ofNat m4) (Int.ofNat 34))
 (Ci n_4 fun m8 =>
 Dn l_0 c_0 m8 fun m9 =>
 k5 (Az (Int.ofNat m9) (Int.ofNat 92)) h)
 (k5 true h)) fun b7 h6 =>
 cnd b7
 (oK (An env 115 (fun e ei => Aj 1 [(0, (.int .u8 (Int.ofNat 92)))] h6 e ei)) fun v10 h11 =>
 oK (Ao env .append [115, 115] [v_3, v10] h11) fun v12 h13 =>
 J.a2 l_0 c_0 v12 n_4 h13)
 (J.a2 l_0 c_0 v_3 n_4 h6))
 (oK (An env 115 (fun e ei => Aj 1 [(0, (.int .u8 (Int.ofNat 34)))] h e ei)) fun v14 h15 =>
 oK (Ao env .append [115, 115] [v_3, v14] h15) fun v16 h17 =>
 oK (Fz env h17 115 9 v16) fun v18 h19 =>
 asS v18 fun l20 c21 =>
 k (.str l20 c21) h19)
def Ant (_c : CF) (_k : KV) (J : J24) (l_0 c_0 : Nat) (v_3 : AV) (n_4 : Int) (h : H) : Prop :=
 Ci n_4 fun m22 =>
 Dn l_0 c_0 m22 fun m23 =>
 oK (An env 115 (fun e ei => Aj 1 [(0, (.int .u8 (Int.ofNat m23)))] h e ei)) fun v24 h25 =>
 oK (Ao env .append [115, 115] [v_3, v24] h25) fun v26 h27 =>
 fI (wrap .i64 (Br n_4 (Int.ofNat 1))) fun n28 =>
 J.a1 l_0 c_0 v26 n28 h27
def z24 : J24 := ⟨fun _ _ _ => False, fun _ _ _ _ _ => False, fun _ _ _ _ _ => False⟩
def r24 (c : CF) (k : KV) (m : Nat) : J24 := Nat.rec z24 (fun _ J => ⟨Anv c k J, Anu c k J, Ant c k J⟩) m
def f24 (J : J24) : Jump := fun L f h => match L with
 | 0 => asS (f 0) fun l_0 c_0 => J.a0 l_0 c_0 h
 | 1 => asS (f 0) fun l_0 c_0 => asI .i64 (f 4) fun n_4 => J.a1 l_0 c_0 (f 3) n_4 h
 | 2 => asS (f 0) fun l_0 c_0 => asI .i64 (f 4) fun n_4 => J.a2 l_0 c_0 (f 3) n_4 h
 | _ => False
def u24 : Bu := [(.root, 0), ((.l (.r (.l (.r (.r .root))))), 1), ((.r (.l (.l (.r (.l (.l (.r (.l (.r (.r .root)))))))))), 2)]
section
variable {c : CF} {k : KV} {f : FT} {h : H}
theorem Bf5 (J : J24) (l_0 c_0 : Nat) : zqe c k q24 u24 (f24 J) d24 Tryz.f24 .root (Af f 0 (.str l_0 c_0)) h = Anv c k J l_0 c_0 h := by kernel_rfl
theorem Bf4 (J : J24) (l_0 c_0 : Nat) (n_4 : Int) : zqe c k q24 u24 (f24 J) d24 Tryz.f24 (.l (.r (.l (.r (.r .root))))) (Af (Af f 0 (.str l_0 c_0)) 4 (.int .i64 n_4)) h = Anu c k J l_0 c_0 (f 3) n_4 h := by kernel_rfl
theorem Bf3 (J : J24) (l_0 c_0 : Nat) (n_4 : Int) : zqe c k q24 u24 (f24 J) d24 Tryz.f24 (.r (.l (.l (.r (.l (.l (.r (.l (.r (.r .root)))))))))) (Af (Af f 0 (.str l_0 c_0)) 4 (.int .i64 n_4)) h = Ant c k J l_0 c_0 (f 3) n_4 h := by kernel_rfl
theorem w24 (hc : Cj c) {n : Nat} {a : List AV} (hg : f24 (r24 c k n) 0 (Ac a) h) : zqs 24 a h k :=
 zqw hc q24 Tryz.func24 rfl (by kernel_rfl) (by kernel_rfl) k u24 (fun n => f24 (r24 c k n)) (fun L _ _ hl => match L, hl with
  | 0, hl => Bj hl fun _ _ hl => hl
  | 1, hl => Bj hl fun _ _ hl => Bc hl fun _ hl => hl
  | 2, hl => Bj hl fun _ _ hl => Bc hl fun _ hl => hl
  | _ + 3, hl => hl) (fun n => ⟨
  fun f h hl => by
    refine Bi 0 hl fun _ _ hl => ?_; exact Eq.mpr (Bf5 ..) hl,
  fun f h hl => by
    refine Bi 0 hl fun _ _ hl => ?_; refine Bb 4 hl fun _ hl => ?_; exact Eq.mpr (Bf4 ..) hl,
  fun f h hl => by
    refine Bi 0 hl fun _ _ hl => ?_; refine Bb 4 hl fun _ hl => ?_; exact Eq.mpr (Bf3 ..) hl,
  trivial⟩) rfl hg
end
theorem g24 {c : CF} {k : KV} {n l_0 c_0 : Nat} {h : H} (hg : Anv c k (r24 c k n) l_0 c_0 h) : f24 (r24 c k (n + 1)) 0 (Ac [.str l_0 c_0]) h := hg
theorem Beb {c : CF} {k : KV} {n x0 x1 : Nat} {x2 : AV} {x3 : Int} {h : H} (hg : Anu c k (r24 c k n) x0 x1 x2 x3 h) : (r24 c k (n + 1)).a1 x0 x1 x2 x3 h := hg
theorem Bea {c : CF} {k : KV} {n x0 x1 : Nat} {x2 : AV} {x3 : Int} {h : H} (hg : Ant c k (r24 c k n) x0 x1 x2 x3 h) : (r24 c k (n + 1)).a2 x0 x1 x2 x3 h := hg
end Go.Den
