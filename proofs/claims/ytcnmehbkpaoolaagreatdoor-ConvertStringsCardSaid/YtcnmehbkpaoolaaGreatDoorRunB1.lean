/-
 Part of the proof.
-/
import Derived.Test.YtcnmehbkpaoolaaGreatDoorRunA1
import Derived.KernelRfl
namespace Go.Den
open Go.Proofs
set_option maxRecDepth 100000
variable {c : CF} {k : KV} {f : FT} {h : H}
theorem w15 (hc : Cj c) {m : Nat} {a : List AV} (hg : Ik env c q15 u15 d15 (Gp env Tryz.f15.results.toList k) m 0 (Ac a) h) : zqs 15 a h k := Jg mixed Js hc q15 Tryz.func15 rfl (by kernel_rfl) (by kernel_rfl) (by kernel_rfl) (by simp [u15]) hg
theorem Bf8 (J : J22) (l_0 c_0 : Nat) : zqe c k q22 u22 (f22 J) d22 Tryz.f22 .root (Af f 0 (.str l_0 c_0)) h = Anx c k J l_0 c_0 h := by kernel_rfl
theorem Bf7 (J : J22) (n_6 : Int) : zqe c k q22 u22 (f22 J) d22 Tryz.f22 (.l (.r (.l (.r (.r (.r .root)))))) (Af f 6 (.int .i64 n_6)) h = Ahw c k J (f 3) (f 5) n_6 h := by kernel_rfl
theorem w22 (hc : Cj c) {n : Nat} {a : List AV} (hg : f22 (r22 c k n) 0 (Ac a) h) : zqs 22 a h k :=
 zqw hc q22 Tryz.func22 rfl (by kernel_rfl) (by kernel_rfl) k u22 (fun n => f22 (r22 c k n)) (fun L _ _ hl => match L, hl with
  | 0, hl => Bj hl fun _ _ hl => hl
  | 1, hl => Bc hl fun _ hl => hl
  | _ + 2, hl => hl) (fun n => ⟨
  fun f h hl => by
    refine Bi 0 hl fun _ _ hl => ?_; exact Eq.mpr (Bf8 ..) hl,
  fun f h hl => by
    refine Bb 6 hl fun _ hl => ?_; exact Eq.mpr (Bf7 ..) hl,
  trivial⟩) rfl hg
theorem Bfx (J : J35) : zqe c k q35 u35 (f35 J) d35 Tryz.f35 .root f h = Ann c k J (f 0) (f 1) h := by kernel_rfl
theorem w35 (hc : Cj c) {n : Nat} {a : List AV} (hg : f35 (r35 c k n) 0 (Ac a) h) : zqs 35 a h k :=
 zqw hc q35 Tryz.func35 rfl (by kernel_rfl) (by kernel_rfl) k u35 (fun n => f35 (r35 c k n)) (fun L _ _ hl => match L, hl with
  | 0, hl => hl
  | _ + 1, hl => hl) (fun n => ⟨
  fun f h hl => Eq.mpr (Bfx ..) hl,
  trivial⟩) rfl hg
theorem Bfv (J : J43) (l_1 c_1 : Nat) : zqe c k q43 u43 (f43 J) d43 Tryz.f43 .root (Af f 1 (.str l_1 c_1)) h = Ahv c k J (f 0) l_1 c_1 h := by kernel_rfl
theorem w43 (hc : Cj c) {n : Nat} {a : List AV} (hg : f43 (r43 c k n) 0 (Ac a) h) : zqs 43 a h k :=
 zqw hc q43 Tryz.func43 rfl (by kernel_rfl) (by kernel_rfl) k u43 (fun n => f43 (r43 c k n)) (fun L _ _ hl => match L, hl with
  | 0, hl => Bj hl fun _ _ hl => hl
  | _ + 1, hl => hl) (fun n => ⟨
  fun f h hl => by
    refine Bi 1 hl fun _ _ hl => ?_; exact Eq.mpr (Bfv ..) hl,
  trivial⟩) rfl hg
theorem Bfu (J : J46) (l_0 c_0 : Nat) (l_1 c_1 : Nat) : zqe c k q46 u46 (f46 J) d46 Tryz.f46 .root (Af (Af f 0 (.str l_0 c_0)) 1 (.str l_1 c_1)) h = Anl c k J l_0 c_0 l_1 c_1 h := by kernel_rfl
theorem Bft (J : J46) (l_0 c_0 : Nat) (l_1 c_1 : Nat) (b_10 : Bool) (n_11 : Int) : zqe c k q46 u46 (f46 J) d46 Tryz.f46 (.l (.r (.l (.r (.r (.r (.r (.r (.r .root))))))))) (Af (Af (Af (Af f 0 (.str l_0 c_0)) 1 (.str l_1 c_1)) 10 (.bool b_10)) 11 (.int .i64 n_11)) h = Wz c k J l_0 c_0 l_1 c_1 (f 6) (f 7) (f 8) (f 9) b_10 n_11 h := by kernel_rfl
theorem Bfs (J : J46) (l_0 c_0 : Nat) (l_1 c_1 : Nat) (n_15 : Int) : zqe c k q46 u46 (f46 J) d46 Tryz.f46 (.r (.r (.r (.r (.r (.r (.r (.r (.l (.r (.l (.l (.r (.l (.r (.r (.r (.r (.r (.r .root)))))))))))))))))))) (Af (Af (Af f 0 (.str l_0 c_0)) 1 (.str l_1 c_1)) 15 (.int .i64 n_15)) h = Ank c k J l_0 c_0 l_1 c_1 (f 6) (f 7) (f 8) (f 9) n_15 h := by kernel_rfl
theorem Bfr (J : J46) : zqe c k q46 u46 (f46 J) d46 Tryz.f46 (.r (.r (.r (.r (.r (.r (.r (.r .root)))))))) f h = Anj c k J (f 7) (f 8) h := by kernel_rfl
theorem Bfq (J : J46) (l_1 c_1 : Nat) : zqe c k q46 u46 (f46 J) d46 Tryz.f46 (.r (.l (.r (.l (.l (.r (.l (.r (.r (.r (.l (.r (.l (.l (.r (.l (.r (.r (.r (.r (.r (.r .root)))))))))))))))))))))) (Af f 1 (.str l_1 c_1)) h = A1c c k J l_1 c_1 (f 7) (f 8) (f 9) h := by kernel_rfl
theorem Bfp (J : J46) (l_0 c_0 : Nat) (l_1 c_1 : Nat) (b_10 : Bool) (n_11 n_14 n_15 : Int) (b_16 : Bool) : zqe c k q46 u46 (f46 J) d46 Tryz.f46 (.r (.r (.r (.r (.r (.l (.r (.l (.l (.r (.l (.r (.r (.r (.r (.r (.r .root))))))))))))))))) (Af (Af (Af (Af (Af (Af (Af f 0 (.str l_0 c_0)) 1 (.str l_1 c_1)) 10 (.bool b_10)) 11 (.int .i64 n_11)) 14 (.int .i64 n_14)) 15 (.int .i64 n_15)) 16 (.bool b_16)) h = Ani c k J l_0 c_0 l_1 c_1 (f 6) (f 7) (f 8) (f 9) b_10 n_11 n_14 n_15 b_16 h := by kernel_rfl
theorem w46 (hc : Cj c) {n : Nat} {a : List AV} (hg : f46 (r46 c k n) 0 (Ac a) h) : zqs 46 a h k :=
 zqw hc q46 Tryz.func46 rfl (by kernel_rfl) (by kernel_rfl) k u46 (fun n => f46 (r46 c k n)) (fun L _ _ hl => match L, hl with
  | 0, hl => Bj hl fun _ _ hl => Bj hl fun _ _ hl => hl
  | 1, hl => Bj hl fun _ _ hl => Bj hl fun _ _ hl => Ja hl fun _ hl => Bc hl fun _ hl => hl
  | 2, hl => Bj hl fun _ _ hl => Bj hl fun _ _ hl => Bc hl fun _ hl => hl
  | 3, hl => hl
  | 4, hl => Bj hl fun _ _ hl => hl
  | 5, hl => Bj hl fun _ _ hl => Bj hl fun _ _ hl => Ja hl fun _ hl => Bc hl fun _ hl => Bc hl fun _ hl => Bc hl fun _ hl => Ja hl fun _ hl => hl
  | _ + 6, hl => hl) (fun n => ⟨
  fun f h hl => by
    refine Bi 0 hl fun _ _ hl => ?_; refine Bi 1 hl fun _ _ hl => ?_; exact Eq.mpr (Bfu ..) hl,
  fun f h hl => by
    refine Bi 0 hl fun _ _ hl => ?_; refine Bi 1 hl fun _ _ hl => ?_; refine Iz 10 hl fun _ hl => ?_; refine Bb 11 hl fun _ hl => ?_; exact Eq.mpr (Bft ..) hl,
  fun f h hl => by
    refine Bi 0 hl fun _ _ hl => ?_; refine Bi 1 hl fun _ _ hl => ?_; refine Bb 15 hl fun _ hl => ?_; exact Eq.mpr (Bfs ..) hl,
  fun f h hl => Eq.mpr (Bfr ..) hl,
  fun f h hl => by
    refine Bi 1 hl fun _ _ hl => ?_; exact Eq.mpr (Bfq ..) hl,
  fun f h hl => by
    refine Bi 0 hl fun _ _ hl => ?_; refine Bi 1 hl fun _ _ hl => ?_; refine Iz 10 hl fun _ hl => ?_; refine Bb 11 hl fun _ hl => ?_; refine Bb 14 hl fun _ hl => ?_; refine Bb 15 hl fun _ hl => ?_; refine Iz 16 hl fun _ hl => ?_; exact Eq.mpr (Bfp ..) hl,
  trivial⟩) rfl hg
theorem Bfi (J : J61) (l_1 c_1 : Nat) : zqe c k q61 u61 (f61 J) d61 Tryz.f61 .root (Af f 1 (.str l_1 c_1)) h = Ahs c k J (f 0) l_1 c_1 h := by kernel_rfl
theorem w61 (hc : Cj c) {n : Nat} {a : List AV} (hg : f61 (r61 c k n) 0 (Ac a) h) : zqs 61 a h k :=
 zqw hc q61 Tryz.func61 rfl (by kernel_rfl) (by kernel_rfl) k u61 (fun n => f61 (r61 c k n)) (fun L _ _ hl => match L, hl with
  | 0, hl => Bj hl fun _ _ hl => hl
  | _ + 1, hl => hl) (fun n => ⟨
  fun f h hl => by
    refine Bi 1 hl fun _ _ hl => ?_; exact Eq.mpr (Bfi ..) hl,
  trivial⟩) rfl hg
theorem Bfh (J : J62) (l_0 c_0 : Nat) : zqe c k q62 u62 (f62 J) d62 Tryz.f62 .root (Af f 0 (.str l_0 c_0)) h = Anb c k J l_0 c_0 h := by kernel_rfl
theorem w62 (hc : Cj c) {n : Nat} {a : List AV} (hg : f62 (r62 c k n) 0 (Ac a) h) : zqs 62 a h k :=
 zqw hc q62 Tryz.func62 rfl (by kernel_rfl) (by kernel_rfl) k u62 (fun n => f62 (r62 c k n)) (fun L _ _ hl => match L, hl with
  | 0, hl => Bj hl fun _ _ hl => hl
  | _ + 1, hl => hl) (fun n => ⟨
  fun f h hl => by
    refine Bi 0 hl fun _ _ hl => ?_; exact Eq.mpr (Bfh ..) hl,
  trivial⟩) rfl hg
theorem Bfd (J : J65) (l_0 c_0 : Nat) : zqe c k q65 u65 (f65 J) d65 Tryz.f65 .root (Af f 0 (.str l_0 c_0)) h = Am8 c k J l_0 c_0 h := by kernel_rfl
theorem Bfc (J : J65) (l_3 c_3 : Nat) (l_4 c_4 : Nat) (l_5 c_5 : Nat) (n_6 : Int) (b_7 : Bool) : zqe c k q65 u65 (f65 J) d65 Tryz.f65 (.r (.r (.r (.r (.r (.r (.r .root))))))) (Af (Af (Af (Af (Af f 3 (.str l_3 c_3)) 4 (.str l_4 c_4)) 5 (.str l_5 c_5)) 6 (.int .i64 n_6)) 7 (.bool b_7)) h = Am7 c k J l_3 c_3 l_4 c_4 l_5 c_5 n_6 b_7 h := by kernel_rfl
theorem Bfb (J : J65) (l_3 c_3 : Nat) (l_4 c_4 : Nat) (l_5 c_5 : Nat) : zqe c k q65 u65 (f65 J) d65 Tryz.f65 (.r (.r (.r .root))) (Af (Af (Af f 3 (.str l_3 c_3)) 4 (.str l_4 c_4)) 5 (.str l_5 c_5)) h = Am6 c k J l_3 c_3 l_4 c_4 l_5 c_5 h := by kernel_rfl
theorem w65 (hc : Cj c) {n : Nat} {a : List AV} (hg : f65 (r65 c k n) 0 (Ac a) h) : zqs 65 a h k :=
 zqw hc q65 Tryz.func65 rfl (by kernel_rfl) (by kernel_rfl) k u65 (fun n => f65 (r65 c k n)) (fun L _ _ hl => match L, hl with
  | 0, hl => Bj hl fun _ _ hl => hl
  | 1, hl => Bj hl fun _ _ hl => Bj hl fun _ _ hl => Bj hl fun _ _ hl => Bc hl fun _ hl => Ja hl fun _ hl => hl
  | 2, hl => Bj hl fun _ _ hl => Bj hl fun _ _ hl => Bj hl fun _ _ hl => hl
  | _ + 3, hl => hl) (fun n => ⟨
  fun f h hl => by
    refine Bi 0 hl fun _ _ hl => ?_; exact Eq.mpr (Bfd ..) hl,
  fun f h hl => by
    refine Bi 3 hl fun _ _ hl => ?_; refine Bi 4 hl fun _ _ hl => ?_; refine Bi 5 hl fun _ _ hl => ?_; refine Bb 6 hl fun _ hl => ?_; refine Iz 7 hl fun _ hl => ?_; exact Eq.mpr (Bfc ..) hl,
  fun f h hl => by
    refine Bi 3 hl fun _ _ hl => ?_; refine Bi 4 hl fun _ _ hl => ?_; refine Bi 5 hl fun _ _ hl => ?_; exact Eq.mpr (Bfb ..) hl,
  trivial⟩) rfl hg
theorem Bfa (J : J66) (l_0 c_0 : Nat) : zqe c k q66 u66 (f66 J) d66 Tryz.f66 .root (Af f 0 (.str l_0 c_0)) h = Am5 c k J l_0 c_0 h := by kernel_rfl
theorem Be9 (J : J66) (l_4 c_4 : Nat) (l_6 c_6 : Nat) (n_9 n_52 n_53 : Int) : zqe c k q66 u66 (f66 J) d66 Tryz.f66 (.l (.r (.l (.r (.l (.r (.l (.r (.r (.r (.r (.r .root)))))))))))) (Af (Af (Af (Af (Af f 4 (.str l_4 c_4)) 6 (.str l_6 c_6)) 9 (.int .u32 n_9)) 52 (.int .i64 n_52)) 53 (.int .i64 n_53)) h = Am4 c k J (f 2) l_4 c_4 l_6 c_6 n_9 n_52 n_53 h := by kernel_rfl
theorem Be8 (J : J66) (l_6 c_6 : Nat) (n_8 : Int) : zqe c k q66 u66 (f66 J) d66 Tryz.f66 (.r (.r (.r (.r (.r (.r .root)))))) (Af (Af f 6 (.str l_6 c_6)) 8 (.int .i64 n_8)) h = Am3 c k J (f 2) l_6 c_6 n_8 h := by kernel_rfl
theorem w66 (hc : Cj c) {n : Nat} {a : List AV} (hg : f66 (r66 c k n) 0 (Ac a) h) : zqs 66 a h k :=
 zqw hc q66 Tryz.func66 rfl (by kernel_rfl) (by kernel_rfl) k u66 (fun n => f66 (r66 c k n)) (fun L _ _ hl => match L, hl with
  | 0, hl => Bj hl fun _ _ hl => hl
  | 1, hl => Bj hl fun _ _ hl => Bj hl fun _ _ hl => Bc hl fun _ hl => Bc hl fun _ hl => Bc hl fun _ hl => hl
  | 2, hl => Bj hl fun _ _ hl => Bc hl fun _ hl => hl
  | _ + 3, hl => hl) (fun n => ⟨
  fun f h hl => by
    refine Bi 0 hl fun _ _ hl => ?_; exact Eq.mpr (Bfa ..) hl,
  fun f h hl => by
    refine Bi 4 hl fun _ _ hl => ?_; refine Bi 6 hl fun _ _ hl => ?_; refine Bb 9 hl fun _ hl => ?_; refine Bb 52 hl fun _ hl => ?_; refine Bb 53 hl fun _ hl => ?_; exact Eq.mpr (Be9 ..) hl,
  fun f h hl => by
    refine Bi 6 hl fun _ _ hl => ?_; refine Bb 8 hl fun _ hl => ?_; exact Eq.mpr (Be8 ..) hl,
  trivial⟩) rfl hg
theorem Be7 (J : J67) : zqe c k q67 u67 (f67 J) d67 Tryz.f67 .root f h = Am2 c k J (f 0) h := by kernel_rfl
theorem w67 (hc : Cj c) {n : Nat} {a : List AV} (hg : f67 (r67 c k n) 0 (Ac a) h) : zqs 67 a h k :=
 zqw hc q67 Tryz.func67 rfl (by kernel_rfl) (by kernel_rfl) k u67 (fun n => f67 (r67 c k n)) (fun L _ _ hl => match L, hl with
  | 0, hl => hl
  | _ + 1, hl => hl) (fun n => ⟨
  fun f h hl => Eq.mpr (Be7 ..) hl,
  trivial⟩) rfl hg
theorem Be6 (J : J74) : zqe c k q74 u74 (f74 J) d74 Tryz.f74 .root f h = Am1 c k J (f 0) (f 1) h := by kernel_rfl
theorem w74 (hc : Cj c) {n : Nat} {a : List AV} (hg : f74 (r74 c k n) 0 (Ac a) h) : zqs 74 a h k :=
 zqw hc q74 Tryz.func74 rfl (by kernel_rfl) (by kernel_rfl) k u74 (fun n => f74 (r74 c k n)) (fun L _ _ hl => match L, hl with
  | 0, hl => hl
  | _ + 1, hl => hl) (fun n => ⟨
  fun f h hl => Eq.mpr (Be6 ..) hl,
  trivial⟩) rfl hg
theorem w75 (hc : Cj c) {m : Nat} {a : List AV} (hg : Ik env c q75 u75 d75 (Gp env Tryz.f75.results.toList k) m 0 (Ac a) h) : zqs 75 a h k := Jg mixed Js hc q75 Tryz.func75 rfl (by kernel_rfl) (by kernel_rfl) (by kernel_rfl) (by simp [u75]) hg
theorem Be3 (J : J79) (n_1 : Int) : zqe c k q79 u79 (f79 J) d79 Tryz.f79 .root (Af f 1 (.int .i64 n_1)) h = Ahq c k J (f 0) n_1 h := by kernel_rfl
theorem Be2 (J : J79) (n_6 : Int) : zqe c k q79 u79 (f79 J) d79 Tryz.f79 (.l (.l (.r (.l (.r (.l (.r (.r .root)))))))) (Af f 6 (.int .i64 n_6)) h = Amy c k J (f 0) n_6 h := by kernel_rfl
theorem Be1 (J : J79) (n_7 : Int) : zqe c k q79 u79 (f79 J) d79 Tryz.f79 (.l (.r (.l (.r (.r (.r (.r .root))))))) (Af f 7 (.int .i64 n_7)) h = Amx c k J (f 0) n_7 h := by kernel_rfl
theorem w79 (hc : Cj c) {n : Nat} {a : List AV} (hg : f79 (r79 c k n) 0 (Ac a) h) : zqs 79 a h k :=
 zqw hc q79 Tryz.func79 rfl (by kernel_rfl) (by kernel_rfl) k u79 (fun n => f79 (r79 c k n)) (fun L _ _ hl => match L, hl with
  | 0, hl => Bc hl fun _ hl => hl
  | 1, hl => Bc hl fun _ hl => hl
  | 2, hl => Bc hl fun _ hl => hl
  | _ + 3, hl => hl) (fun n => ⟨
  fun f h hl => by
    refine Bb 1 hl fun _ hl => ?_; exact Eq.mpr (Be3 ..) hl,
  fun f h hl => by
    refine Bb 6 hl fun _ hl => ?_; exact Eq.mpr (Be2 ..) hl,
  fun f h hl => by
    refine Bb 7 hl fun _ hl => ?_; exact Eq.mpr (Be1 ..) hl,
  trivial⟩) rfl hg
theorem Be0 (J : J80) (n_1 : Int) : zqe c k q80 u80 (f80 J) d80 Tryz.f80 .root (Af f 1 (.int .i64 n_1)) h = Amw c k J (f 0) n_1 h := by kernel_rfl
theorem Bez (J : J80) (n_9 : Int) : zqe c k q80 u80 (f80 J) d80 Tryz.f80 (.l (.l (.r (.l (.r (.l (.r (.r (.r .root))))))))) (Af f 9 (.int .i64 n_9)) h = Amv c k J (f 0) n_9 h := by kernel_rfl
theorem Bey (J : J80) (n_1 : Int) : zqe c k q80 u80 (f80 J) d80 Tryz.f80 (.r (.r (.r .root))) (Af f 1 (.int .i64 n_1)) h = Amu c k J (f 0) n_1 h := by kernel_rfl
theorem w80 (hc : Cj c) {n : Nat} {a : List AV} (hg : f80 (r80 c k n) 0 (Ac a) h) : zqs 80 a h k :=
 zqw hc q80 Tryz.func80 rfl (by kernel_rfl) (by kernel_rfl) k u80 (fun n => f80 (r80 c k n)) (fun L _ _ hl => match L, hl with
  | 0, hl => Bc hl fun _ hl => hl
  | 1, hl => Bc hl fun _ hl => hl
  | 2, hl => Bc hl fun _ hl => hl
  | _ + 3, hl => hl) (fun n => ⟨
  fun f h hl => by
    refine Bb 1 hl fun _ hl => ?_; exact Eq.mpr (Be0 ..) hl,
  fun f h hl => by
    refine Bb 9 hl fun _ hl => ?_; exact Eq.mpr (Bez ..) hl,
  fun f h hl => by
    refine Bb 1 hl fun _ hl => ?_; exact Eq.mpr (Bey ..) hl,
  trivial⟩) rfl hg
theorem A8m (J : Ax3) (n_1 : Int) : zqe c k Bdd Bb6 (f107 J) d107 Tryz.f107 .root (Af f 1 (.int .u8 n_1)) h = Afn c k J (f 0) n_1 h := by kernel_rfl
theorem Bba (hc : Cj c) {n : Nat} {a : List AV} (hg : f107 (As6 c k n) 0 (Ac a) h) : zqs 107 a h k :=
 zqw hc Bdd Tryz.func107 rfl (by kernel_rfl) (by kernel_rfl) k Bb6 (fun n => f107 (As6 c k n)) (fun L _ _ hl => match L, hl with
  | 0, hl => Bc hl fun _ hl => hl
  | _ + 1, hl => hl) (fun n => ⟨
  fun f h hl => by
    refine Bb 1 hl fun _ hl => ?_; exact Eq.mpr (A8m ..) hl,
  trivial⟩) rfl hg
theorem A8l (J : Aha) (l_0 c_0 : Nat) : zqe c k Ay7 Aye (f108 J) d108 Tryz.f108 .root (Af f 0 (.str l_0 c_0)) h = Afm c k J l_0 c_0 h := by kernel_rfl
theorem A8k (J : Aha) (n_5 n_6 n_8 : Int) : zqe c k Ay7 Aye (f108 J) d108 Tryz.f108 (.l (.r (.l (.r (.r (.r (.r (.r (.r (.r .root)))))))))) (Af (Af (Af f 5 (.int .i64 n_5)) 6 (.int .i64 n_6)) 8 (.int .i64 n_8)) h = Afl c k J n_5 n_6 n_8 (f 38) h := by kernel_rfl
theorem A8j (J : Aha) (l_0 c_0 : Nat) (n_5 n_6 n_7 : Int) : zqe c k Ay7 Aye (f108 J) d108 Tryz.f108 (.r (.r (.r (.r (.r .root))))) (Af (Af (Af (Af f 0 (.str l_0 c_0)) 5 (.int .i64 n_5)) 6 (.int .i64 n_6)) 7 (.int .i64 n_7)) h = Afk c k J l_0 c_0 n_5 n_6 n_7 h := by kernel_rfl
theorem Ba9 (hc : Cj c) {n : Nat} {a : List AV} (hg : f108 (Zv c k n) 0 (Ac a) h) : zqs 108 a h k :=
 zqw hc Ay7 Tryz.func108 rfl (by kernel_rfl) (by kernel_rfl) k Aye (fun n => f108 (Zv c k n)) (fun L _ _ hl => match L, hl with
  | 0, hl => Bj hl fun _ _ hl => hl
  | 1, hl => Bc hl fun _ hl => Bc hl fun _ hl => Bc hl fun _ hl => hl
  | 2, hl => Bj hl fun _ _ hl => Bc hl fun _ hl => Bc hl fun _ hl => Bc hl fun _ hl => hl
  | _ + 3, hl => hl) (fun n => ⟨
  fun f h hl => by
    refine Bi 0 hl fun _ _ hl => ?_; exact Eq.mpr (A8l ..) hl,
  fun f h hl => by
    refine Bb 5 hl fun _ hl => ?_; refine Bb 6 hl fun _ hl => ?_; refine Bb 8 hl fun _ hl => ?_; exact Eq.mpr (A8k ..) hl,
  fun f h hl => by
    refine Bi 0 hl fun _ _ hl => ?_; refine Bb 5 hl fun _ hl => ?_; refine Bb 6 hl fun _ hl => ?_; refine Bb 7 hl fun _ hl => ?_; exact Eq.mpr (A8j ..) hl,
  trivial⟩) rfl hg
theorem A8i (J : Ax2) (l_0 c_0 : Nat) (l_1 c_1 : Nat) : zqe c k Bdc Bb5 (f109 J) d109 Tryz.f109 .root (Af (Af f 0 (.str l_0 c_0)) 1 (.str l_1 c_1)) h = Afj c k J l_0 c_0 l_1 c_1 h := by kernel_rfl
theorem Ba8 (hc : Cj c) {n : Nat} {a : List AV} (hg : f109 (As5 c k n) 0 (Ac a) h) : zqs 109 a h k :=
 zqw hc Bdc Tryz.func109 rfl (by kernel_rfl) (by kernel_rfl) k Bb5 (fun n => f109 (As5 c k n)) (fun L _ _ hl => match L, hl with
  | 0, hl => Bj hl fun _ _ hl => Bj hl fun _ _ hl => hl
  | _ + 1, hl => hl) (fun n => ⟨
  fun f h hl => by
    refine Bi 0 hl fun _ _ hl => ?_; refine Bi 1 hl fun _ _ hl => ?_; exact Eq.mpr (A8i ..) hl,
  trivial⟩) rfl hg
theorem A8f (J : Axz) (l_0 c_0 : Nat) (l_1 c_1 : Nat) : zqe c k Bc9 Bb2 (f112 J) d112 Tryz.f112 .root (Af (Af f 0 (.str l_0 c_0)) 1 (.str l_1 c_1)) h = Afg c k J l_0 c_0 l_1 c_1 h := by kernel_rfl
theorem Ba5 (hc : Cj c) {n : Nat} {a : List AV} (hg : f112 (As2 c k n) 0 (Ac a) h) : zqs 112 a h k :=
 zqw hc Bc9 Tryz.func112 rfl (by kernel_rfl) (by kernel_rfl) k Bb2 (fun n => f112 (As2 c k n)) (fun L _ _ hl => match L, hl with
  | 0, hl => Bj hl fun _ _ hl => Bj hl fun _ _ hl => hl
  | _ + 1, hl => hl) (fun n => ⟨
  fun f h hl => by
    refine Bi 0 hl fun _ _ hl => ?_; refine Bi 1 hl fun _ _ hl => ?_; exact Eq.mpr (A8f ..) hl,
  trivial⟩) rfl hg
theorem A8e (J : Amm) (l_0 c_0 : Nat) : zqe c k A32 A3a (f113 J) d113 Tryz.f113 .root (Af f 0 (.str l_0 c_0)) h = Aff c k J l_0 c_0 h := by kernel_rfl
theorem A8d (J : Amm) (l_0 c_0 : Nat) (b_2 : Bool) : zqe c k A32 A3a (f113 J) d113 Tryz.f113 (.r (.r .root)) (Af (Af f 0 (.str l_0 c_0)) 2 (.bool b_2)) h = Afe c k J l_0 c_0 b_2 h := by kernel_rfl
theorem Ba4 (hc : Cj c) {n : Nat} {a : List AV} (hg : f113 (Ah6 c k n) 0 (Ac a) h) : zqs 113 a h k :=
 zqw hc A32 Tryz.func113 rfl (by kernel_rfl) (by kernel_rfl) k A3a (fun n => f113 (Ah6 c k n)) (fun L _ _ hl => match L, hl with
  | 0, hl => Bj hl fun _ _ hl => hl
  | 1, hl => Bj hl fun _ _ hl => Ja hl fun _ hl => hl
  | _ + 2, hl => hl) (fun n => ⟨
  fun f h hl => by
    refine Bi 0 hl fun _ _ hl => ?_; exact Eq.mpr (A8e ..) hl,
  fun f h hl => by
    refine Bi 0 hl fun _ _ hl => ?_; refine Iz 2 hl fun _ hl => ?_; exact Eq.mpr (A8d ..) hl,
  trivial⟩) rfl hg
theorem A8c (J : Axy) (l_0 c_0 : Nat) : zqe c k Bc8 Bb1 (f114 J) d114 Tryz.f114 .root (Af f 0 (.str l_0 c_0)) h = Afd c k J l_0 c_0 h := by kernel_rfl
theorem Ba3 (hc : Cj c) {n : Nat} {a : List AV} (hg : f114 (As1 c k n) 0 (Ac a) h) : zqs 114 a h k :=
 zqw hc Bc8 Tryz.func114 rfl (by kernel_rfl) (by kernel_rfl) k Bb1 (fun n => f114 (As1 c k n)) (fun L _ _ hl => match L, hl with
  | 0, hl => Bj hl fun _ _ hl => hl
  | _ + 1, hl => hl) (fun n => ⟨
  fun f h hl => by
    refine Bi 0 hl fun _ _ hl => ?_; exact Eq.mpr (A8c ..) hl,
  trivial⟩) rfl hg
theorem A8a (J : Axw) (l_0 c_0 : Nat) (l_1 c_1 : Nat) : zqe c k Bc6 Bbz (f116 J) d116 Tryz.f116 .root (Af (Af f 0 (.str l_0 c_0)) 1 (.str l_1 c_1)) h = Afc c k J l_0 c_0 l_1 c_1 h := by kernel_rfl
theorem Ba1 (hc : Cj c) {n : Nat} {a : List AV} (hg : f116 (Asz c k n) 0 (Ac a) h) : zqs 116 a h k :=
 zqw hc Bc6 Tryz.func116 rfl (by kernel_rfl) (by kernel_rfl) k Bbz (fun n => f116 (Asz c k n)) (fun L _ _ hl => match L, hl with
  | 0, hl => Bj hl fun _ _ hl => Bj hl fun _ _ hl => hl
  | _ + 1, hl => hl) (fun n => ⟨
  fun f h hl => by
    refine Bi 0 hl fun _ _ hl => ?_; refine Bi 1 hl fun _ _ hl => ?_; exact Eq.mpr (A8a ..) hl,
  trivial⟩) rfl hg
theorem A79 (J : Axv) (l_0 c_0 : Nat) (n_1 n_2 : Int) : zqe c k Bc5 Bby (f117 J) d117 Tryz.f117 .root (Af (Af (Af f 0 (.str l_0 c_0)) 1 (.int .i64 n_1)) 2 (.int .i64 n_2)) h = Afb c k J l_0 c_0 n_1 n_2 h := by kernel_rfl
theorem Ba0 (hc : Cj c) {n : Nat} {a : List AV} (hg : f117 (Asy c k n) 0 (Ac a) h) : zqs 117 a h k :=
 zqw hc Bc5 Tryz.func117 rfl (by kernel_rfl) (by kernel_rfl) k Bby (fun n => f117 (Asy c k n)) (fun L _ _ hl => match L, hl with
  | 0, hl => Bj hl fun _ _ hl => Bc hl fun _ hl => Bc hl fun _ hl => hl
  | _ + 1, hl => hl) (fun n => ⟨
  fun f h hl => by
    refine Bi 0 hl fun _ _ hl => ?_; refine Bb 1 hl fun _ hl => ?_; refine Bb 2 hl fun _ hl => ?_; exact Eq.mpr (A79 ..) hl,
  trivial⟩) rfl hg
theorem A76 (J : Axu) : zqe c k Bc4 Bbx (f119 J) d119 Tryz.f119 .root f h = Ae8 c k J (f 0) h := by kernel_rfl
theorem Bay (hc : Cj c) {n : Nat} {a : List AV} (hg : f119 (Asx c k n) 0 (Ac a) h) : zqs 119 a h k :=
 zqw hc Bc4 Tryz.func119 rfl (by kernel_rfl) (by kernel_rfl) k Bbx (fun n => f119 (Asx c k n)) (fun L _ _ hl => match L, hl with
  | 0, hl => hl
  | _ + 1, hl => hl) (fun n => ⟨
  fun f h hl => Eq.mpr (A76 ..) hl,
  trivial⟩) rfl hg
theorem A74 (J : Axs) : zqe c k Bc2 Bbv (f122 J) d122 Tryz.f122 .root f h = Ae6 c k J (f 0) h := by kernel_rfl
theorem Baw (hc : Cj c) {n : Nat} {a : List AV} (hg : f122 (Asv c k n) 0 (Ac a) h) : zqs 122 a h k :=
 zqw hc Bc2 Tryz.func122 rfl (by kernel_rfl) (by kernel_rfl) k Bbv (fun n => f122 (Asv c k n)) (fun L _ _ hl => match L, hl with
  | 0, hl => hl
  | _ + 1, hl => hl) (fun n => ⟨
  fun f h hl => Eq.mpr (A74 ..) hl,
  trivial⟩) rfl hg
theorem A73 (J : Ag9) : zqe c k Ay6 Ayd (f127 J) d127 Tryz.f127 .root f h = Ae5 c k J (f 0) h := by kernel_rfl
theorem A72 (J : Ag9) (n_4 : Int) : zqe c k Ay6 Ayd (f127 J) d127 Tryz.f127 (.l (.r (.l (.r (.r .root))))) (Af f 4 (.int .i64 n_4)) h = Zm c k J (f 0) (f 3) n_4 h := by kernel_rfl
theorem A71 (J : Ag9) (n_4 : Int) : zqe c k Ay6 Ayd (f127 J) d127 Tryz.f127 (.r (.r (.l (.l (.r (.l (.r (.r .root)))))))) (Af f 4 (.int .i64 n_4)) h = Zl c k J (f 0) (f 3) n_4 h := by kernel_rfl
theorem Bav (hc : Cj c) {n : Nat} {a : List AV} (hg : f127 (Zu c k n) 0 (Ac a) h) : zqs 127 a h k :=
 zqw hc Ay6 Tryz.func127 rfl (by kernel_rfl) (by kernel_rfl) k Ayd (fun n => f127 (Zu c k n)) (fun L _ _ hl => match L, hl with
  | 0, hl => hl
  | 1, hl => Bc hl fun _ hl => hl
  | 2, hl => Bc hl fun _ hl => hl
  | _ + 3, hl => hl) (fun n => ⟨
  fun f h hl => Eq.mpr (A73 ..) hl,
  fun f h hl => by
    refine Bb 4 hl fun _ hl => ?_; exact Eq.mpr (A72 ..) hl,
  fun f h hl => by
    refine Bb 4 hl fun _ hl => ?_; exact Eq.mpr (A71 ..) hl,
  trivial⟩) rfl hg
theorem A7w (J : Axq) (n_1 : Int) : zqe c k Bc0 Bbt (f130 J) d130 Tryz.f130 .root (Af f 1 (.int .i64 n_1)) h = Ae0 c k J (f 0) n_1 h := by kernel_rfl
theorem Bas (hc : Cj c) {n : Nat} {a : List AV} (hg : f130 (Ass c k n) 0 (Ac a) h) : zqs 130 a h k :=
 zqw hc Bc0 Tryz.func130 rfl (by kernel_rfl) (by kernel_rfl) k Bbt (fun n => f130 (Ass c k n)) (fun L _ _ hl => match L, hl with
  | 0, hl => Bc hl fun _ hl => hl
  | _ + 1, hl => hl) (fun n => ⟨
  fun f h hl => by
    refine Bb 1 hl fun _ hl => ?_; exact Eq.mpr (A7w ..) hl,
  trivial⟩) rfl hg
theorem A7v (J : Ag7) (n_1 : Int) : zqe c k Ay4 Ayb (f131 J) d131 Tryz.f131 .root (Af f 1 (.int .i64 n_1)) h = Aez c k J (f 0) n_1 h := by kernel_rfl
theorem A7u (J : Ag7) (n_5 n_6 : Int) : zqe c k Ay4 Ayb (f131 J) d131 Tryz.f131 (.l (.r (.l (.r (.r .root))))) (Af (Af f 5 (.int .u8 n_5)) 6 (.int .i64 n_6)) h = Aey c k J (f 0) n_5 n_6 h := by kernel_rfl
theorem A7t (J : Ag7) (n_5 n_6 : Int) : zqe c k Ay4 Ayb (f131 J) d131 Tryz.f131 (.r (.r (.l (.l (.r (.l (.r (.r .root)))))))) (Af (Af f 5 (.int .u8 n_5)) 6 (.int .i64 n_6)) h = Zk c k J (f 0) n_5 n_6 h := by kernel_rfl
theorem Bar (hc : Cj c) {n : Nat} {a : List AV} (hg : f131 (Zs c k n) 0 (Ac a) h) : zqs 131 a h k :=
 zqw hc Ay4 Tryz.func131 rfl (by kernel_rfl) (by kernel_rfl) k Ayb (fun n => f131 (Zs c k n)) (fun L _ _ hl => match L, hl with
  | 0, hl => Bc hl fun _ hl => hl
  | 1, hl => Bc hl fun _ hl => Bc hl fun _ hl => hl
  | 2, hl => Bc hl fun _ hl => Bc hl fun _ hl => hl
  | _ + 3, hl => hl) (fun n => ⟨
  fun f h hl => by
    refine Bb 1 hl fun _ hl => ?_; exact Eq.mpr (A7v ..) hl,
  fun f h hl => by
    refine Bb 5 hl fun _ hl => ?_; refine Bb 6 hl fun _ hl => ?_; exact Eq.mpr (A7u ..) hl,
  fun f h hl => by
    refine Bb 5 hl fun _ hl => ?_; refine Bb 6 hl fun _ hl => ?_; exact Eq.mpr (A7t ..) hl,
  trivial⟩) rfl hg
theorem A7s (J : Axp) (n_0 : Int) : zqe c k Bcz Bbs (f132 J) d132 Tryz.f132 .root (Af f 0 (.int .u8 n_0)) h = Aex c k J n_0 h := by kernel_rfl
theorem Baq (hc : Cj c) {n : Nat} {a : List AV} (hg : f132 (Asr c k n) 0 (Ac a) h) : zqs 132 a h k :=
 zqw hc Bcz Tryz.func132 rfl (by kernel_rfl) (by kernel_rfl) k Bbs (fun n => f132 (Asr c k n)) (fun L _ _ hl => match L, hl with
  | 0, hl => Bc hl fun _ hl => hl
  | _ + 1, hl => hl) (fun n => ⟨
  fun f h hl => by
    refine Bb 0 hl fun _ hl => ?_; exact Eq.mpr (A7s ..) hl,
  trivial⟩) rfl hg
theorem A7j (J : Tk) (l_0 c_0 : Nat) : zqe c k Aky Ake (f161 J) d161 Tryz.f161 .root (Af f 0 (.str l_0 c_0)) h = Aeo c k J l_0 c_0 h := by kernel_rfl
theorem A7i (J : Tk) (l_0 c_0 : Nat) (b_3 b_4 : Bool) (n_5 : Int) : zqe c k Aky Ake (f161 J) d161 Tryz.f161 (.l (.r (.l (.r (.r .root))))) (Af (Af (Af (Af f 0 (.str l_0 c_0)) 3 (.bool b_3)) 4 (.bool b_4)) 5 (.int .i64 n_5)) h = Aen c k J l_0 c_0 b_3 b_4 n_5 h := by kernel_rfl
theorem A7h (J : Tk) (l_0 c_0 : Nat) (n_8 n_9 : Int) : zqe c k Aky Ake (f161 J) d161 Tryz.f161 (.l (.r (.l (.r (.r (.r (.r (.l (.r (.l (.r (.r (.r .root))))))))))))) (Af (Af (Af f 0 (.str l_0 c_0)) 8 (.int .i64 n_8)) 9 (.int .i64 n_9)) h = Aem c k J l_0 c_0 (f 7) n_8 n_9 h := by kernel_rfl
theorem A7g (J : Tk) (l_0 c_0 : Nat) (n_9 n_10 : Int) : zqe c k Aky Ake (f161 J) d161 Tryz.f161 (.r (.r (.l (.r (.r (.l (.l (.r (.l (.l (.r (.l (.r (.r (.r (.r (.l (.r (.l (.r (.r (.r .root)))))))))))))))))))))) (Af (Af (Af f 0 (.str l_0 c_0)) 9 (.int .i64 n_9)) 10 (.int .u8 n_10)) h = Ael c k J l_0 c_0 (f 7) n_9 n_10 h := by kernel_rfl
theorem A7f (J : Tk) (l_0 c_0 : Nat) (n_8 n_9 : Int) : zqe c k Aky Ake (f161 J) d161 Tryz.f161 (.r (.r (.l (.l (.r (.l (.r (.r (.r (.r (.l (.r (.l (.r (.r (.r .root)))))))))))))))) (Af (Af (Af f 0 (.str l_0 c_0)) 8 (.int .i64 n_8)) 9 (.int .i64 n_9)) h = Zj c k J l_0 c_0 (f 7) n_8 n_9 h := by kernel_rfl
theorem A7e (J : Tk) (l_0 c_0 : Nat) (b_3 b_4 : Bool) : zqe c k Aky Ake (f161 J) d161 Tryz.f161 (.r (.r (.r .root))) (Af (Af (Af f 0 (.str l_0 c_0)) 3 (.bool b_3)) 4 (.bool b_4)) h = Aek c k J l_0 c_0 b_3 b_4 h := by kernel_rfl
theorem Bak (hc : Cj c) {n : Nat} {a : List AV} (hg : f161 (Nk c k n) 0 (Ac a) h) : zqs 161 a h k :=
 zqw hc Aky Tryz.func161 rfl (by kernel_rfl) (by kernel_rfl) k Ake (fun n => f161 (Nk c k n)) (fun L _ _ hl => match L, hl with
  | 0, hl => Bj hl fun _ _ hl => hl
  | 1, hl => Bj hl fun _ _ hl => Ja hl fun _ hl => Ja hl fun _ hl => Bc hl fun _ hl => hl
  | 2, hl => Bj hl fun _ _ hl => Bc hl fun _ hl => Bc hl fun _ hl => hl
  | 3, hl => Bj hl fun _ _ hl => Bc hl fun _ hl => Bc hl fun _ hl => hl
  | 4, hl => Bj hl fun _ _ hl => Bc hl fun _ hl => Bc hl fun _ hl => hl
  | 5, hl => Bj hl fun _ _ hl => Ja hl fun _ hl => Ja hl fun _ hl => hl
  | _ + 6, hl => hl) (fun n => ⟨
  fun f h hl => by
    refine Bi 0 hl fun _ _ hl => ?_; exact Eq.mpr (A7j ..) hl,
  fun f h hl => by
    refine Bi 0 hl fun _ _ hl => ?_; refine Iz 3 hl fun _ hl => ?_; refine Iz 4 hl fun _ hl => ?_; refine Bb 5 hl fun _ hl => ?_; exact Eq.mpr (A7i ..) hl,
  fun f h hl => by
    refine Bi 0 hl fun _ _ hl => ?_; refine Bb 8 hl fun _ hl => ?_; refine Bb 9 hl fun _ hl => ?_; exact Eq.mpr (A7h ..) hl,
  fun f h hl => by
    refine Bi 0 hl fun _ _ hl => ?_; refine Bb 9 hl fun _ hl => ?_; refine Bb 10 hl fun _ hl => ?_; exact Eq.mpr (A7g ..) hl,
  fun f h hl => by
    refine Bi 0 hl fun _ _ hl => ?_; refine Bb 8 hl fun _ hl => ?_; refine Bb 9 hl fun _ hl => ?_; exact Eq.mpr (A7f ..) hl,
  fun f h hl => by
    refine Bi 0 hl fun _ _ hl => ?_; refine Iz 3 hl fun _ hl => ?_; refine Iz 4 hl fun _ hl => ?_; exact Eq.mpr (A7e ..) hl,
  trivial⟩) rfl hg
theorem Bjd (hc : Cj c) {m : Nat} {a : List AV} (hg : Ik env c A3y A26 d165 (Gp env Tryz.f165.results.toList k) m 0 (Ac a) h) : zqs 165 a h k := Jg mixed Js hc A3y Tryz.func165 rfl (by kernel_rfl) (by kernel_rfl) (by kernel_rfl) (by simp [A26]) hg
theorem A7b (J : Axj) (l_1 c_1 : Nat) : zqe c k Bct Bbm (f166 J) d166 Tryz.f166 .root (Af f 1 (.str l_1 c_1)) h = Aeh c k J (f 0) l_1 c_1 h := by kernel_rfl
theorem Bah (hc : Cj c) {n : Nat} {a : List AV} (hg : f166 (Asl c k n) 0 (Ac a) h) : zqs 166 a h k :=
 zqw hc Bct Tryz.func166 rfl (by kernel_rfl) (by kernel_rfl) k Bbm (fun n => f166 (Asl c k n)) (fun L _ _ hl => match L, hl with
  | 0, hl => Bj hl fun _ _ hl => hl
  | _ + 1, hl => hl) (fun n => ⟨
  fun f h hl => by
    refine Bi 1 hl fun _ _ hl => ?_; exact Eq.mpr (A7b ..) hl,
  trivial⟩) rfl hg
theorem A7a (J : Amj) (l_0 c_0 : Nat) : zqe c k A3w A24 (f169 J) d169 Tryz.f169 .root (Af f 0 (.str l_0 c_0)) h = Aeg c k J l_0 c_0 (f 1) h := by kernel_rfl
theorem A69 (J : Amj) (l_0 c_0 : Nat) : zqe c k A3w A24 (f169 J) d169 Tryz.f169 (.l (.l (.r .root))) (Af f 0 (.str l_0 c_0)) h = Aef c k J l_0 c_0 (f 1) h := by kernel_rfl
theorem Bag (hc : Cj c) {n : Nat} {a : List AV} (hg : f169 (Ah4 c k n) 0 (Ac a) h) : zqs 169 a h k :=
 zqw hc A3w Tryz.func169 rfl (by kernel_rfl) (by kernel_rfl) k A24 (fun n => f169 (Ah4 c k n)) (fun L _ _ hl => match L, hl with
  | 0, hl => Bj hl fun _ _ hl => hl
  | 1, hl => Bj hl fun _ _ hl => hl
  | _ + 2, hl => hl) (fun n => ⟨
  fun f h hl => by
    refine Bi 0 hl fun _ _ hl => ?_; exact Eq.mpr (A7a ..) hl,
  fun f h hl => by
    refine Bi 0 hl fun _ _ hl => ?_; exact Eq.mpr (A69 ..) hl,
  trivial⟩) rfl hg
theorem A68 (J : Axi) (l_0 c_0 : Nat) (l_1 c_1 : Nat) : zqe c k Bcs Bbl (f171 J) d171 Tryz.f171 .root (Af (Af f 0 (.str l_0 c_0)) 1 (.str l_1 c_1)) h = Aee c k J l_0 c_0 l_1 c_1 h := by kernel_rfl
theorem Baf (hc : Cj c) {n : Nat} {a : List AV} (hg : f171 (Asj c k n) 0 (Ac a) h) : zqs 171 a h k :=
 zqw hc Bcs Tryz.func171 rfl (by kernel_rfl) (by kernel_rfl) k Bbl (fun n => f171 (Asj c k n)) (fun L _ _ hl => match L, hl with
  | 0, hl => Bj hl fun _ _ hl => Bj hl fun _ _ hl => hl
  | _ + 1, hl => hl) (fun n => ⟨
  fun f h hl => by
    refine Bi 0 hl fun _ _ hl => ?_; refine Bi 1 hl fun _ _ hl => ?_; exact Eq.mpr (A68 ..) hl,
  trivial⟩) rfl hg
theorem A66 (J : Tj) (l_0 c_0 : Nat) (n_1 n_2 : Int) : zqe c k Akx Akd (f173 J) d173 Tryz.f173 .root (Af (Af (Af f 0 (.str l_0 c_0)) 1 (.int .i64 n_1)) 2 (.int .i64 n_2)) h = Aec c k J l_0 c_0 n_1 n_2 h := by kernel_rfl
theorem A65 (J : Tj) (n_1 : Int) (b_8 : Bool) (l_9 c_9 : Nat) (n_10 n_11 : Int) (b_12 : Bool) (n_13 n_100 n_101 : Int) : zqe c k Akx Akd (f173 J) d173 Tryz.f173 (.l (.r (.l (.r (.r (.r (.r (.r (.r (.r (.r (.r (.r (.r .root)))))))))))))) (Af (Af (Af (Af (Af (Af (Af (Af (Af f 1 (.int .i64 n_1)) 8 (.bool b_8)) 9 (.str l_9 c_9)) 10 (.int .u64 n_10)) 11 (.int .u64 n_11)) 12 (.bool b_12)) 13 (.int .u64 n_13)) 100 (.int .i64 n_100)) 101 (.int .i64 n_101)) h = Aeb c k J n_1 b_8 l_9 c_9 n_10 n_11 b_12 n_13 (f 99) n_100 n_101 h := by kernel_rfl
theorem A64 (J : Tj) (n_1 : Int) (b_8 : Bool) (l_9 c_9 : Nat) (n_10 n_11 : Int) (b_12 : Bool) (n_13 n_16 : Int) (n_100 n_101 : Int) : zqe c k Akx Akd (f173 J) d173 Tryz.f173 (.r (.r (.r (.l (.l (.r (.r (.l (.l (.r (.l (.r (.r (.r (.r (.r (.r (.r (.r (.r (.r (.r .root)))))))))))))))))))))) (Af (Af (Af (Af (Af (Af (Af (Af (Af (Af f 1 (.int .i64 n_1)) 8 (.bool b_8)) 9 (.str l_9 c_9)) 10 (.int .u64 n_10)) 11 (.int .u64 n_11)) 12 (.bool b_12)) 13 (.int .u64 n_13)) 16 (.int .u8 n_16)) 100 (.int .i64 n_100)) 101 (.int .i64 n_101)) h = Aea c k J n_1 b_8 l_9 c_9 n_10 n_11 b_12 n_13 n_16 (f 99) n_100 n_101 h := by kernel_rfl
theorem A63 (J : Tj) (l_0 c_0 : Nat) (n_1 n_2 : Int) (b_8 : Bool) (l_9 c_9 : Nat) (n_10 : Int) : zqe c k Akx Akd (f173 J) d173 Tryz.f173 (.r (.r (.r (.r (.r (.r (.r (.r .root)))))))) (Af (Af (Af (Af (Af (Af f 0 (.str l_0 c_0)) 1 (.int .i64 n_1)) 2 (.int .i64 n_2)) 8 (.bool b_8)) 9 (.str l_9 c_9)) 10 (.int .u64 n_10)) h = Ad9 c k J l_0 c_0 n_1 n_2 b_8 l_9 c_9 n_10 h := by kernel_rfl
theorem A62 (J : Tj) (l_0 c_0 : Nat) (n_1 n_2 : Int) (b_8 : Bool) (l_9 c_9 : Nat) : zqe c k Akx Akd (f173 J) d173 Tryz.f173 (.r (.r (.r (.r (.r (.r .root)))))) (Af (Af (Af (Af (Af f 0 (.str l_0 c_0)) 1 (.int .i64 n_1)) 2 (.int .i64 n_2)) 8 (.bool b_8)) 9 (.str l_9 c_9)) h = Ad8 c k J l_0 c_0 n_1 n_2 b_8 l_9 c_9 h := by kernel_rfl
theorem A61 (J : Tj) (l_0 c_0 : Nat) (n_1 n_2 : Int) (b_8 : Bool) (l_9 c_9 : Nat) : zqe c k Akx Akd (f173 J) d173 Tryz.f173 (.r (.r (.r (.r (.r .root))))) (Af (Af (Af (Af (Af f 0 (.str l_0 c_0)) 1 (.int .i64 n_1)) 2 (.int .i64 n_2)) 8 (.bool b_8)) 9 (.str l_9 c_9)) h = Ad7 c k J l_0 c_0 n_1 n_2 b_8 l_9 c_9 h := by kernel_rfl
theorem Bad (hc : Cj c) {n : Nat} {a : List AV} (hg : f173 (Pc c k n) 0 (Ac a) h) : zqs 173 a h k :=
 zqw hc Akx Tryz.func173 rfl (by kernel_rfl) (by kernel_rfl) k Akd (fun n => f173 (Pc c k n)) (fun L _ _ hl => match L, hl with
  | 0, hl => Bj hl fun _ _ hl => Bc hl fun _ hl => Bc hl fun _ hl => hl
  | 1, hl => Bc hl fun _ hl => Ja hl fun _ hl => Bj hl fun _ _ hl => Bc hl fun _ hl => Bc hl fun _ hl => Ja hl fun _ hl => Bc hl fun _ hl => Bc hl fun _ hl => Bc hl fun _ hl => hl
  | 2, hl => Bc hl fun _ hl => Ja hl fun _ hl => Bj hl fun _ _ hl => Bc hl fun _ hl => Bc hl fun _ hl => Ja hl fun _ hl => Bc hl fun _ hl => Bc hl fun _ hl => Bc hl fun _ hl => Bc hl fun _ hl => hl
  | 3, hl => Bj hl fun _ _ hl => Bc hl fun _ hl => Bc hl fun _ hl => Ja hl fun _ hl => Bj hl fun _ _ hl => Bc hl fun _ hl => hl
  | 4, hl => Bj hl fun _ _ hl => Bc hl fun _ hl => Bc hl fun _ hl => Ja hl fun _ hl => Bj hl fun _ _ hl => hl
  | 5, hl => Bj hl fun _ _ hl => Bc hl fun _ hl => Bc hl fun _ hl => Ja hl fun _ hl => Bj hl fun _ _ hl => hl
  | _ + 6, hl => hl) (fun n => ⟨
  fun f h hl => by
    refine Bi 0 hl fun _ _ hl => ?_; refine Bb 1 hl fun _ hl => ?_; refine Bb 2 hl fun _ hl => ?_; exact Eq.mpr (A66 ..) hl,
  fun f h hl => by
    refine Bb 1 hl fun _ hl => ?_; refine Iz 8 hl fun _ hl => ?_; refine Bi 9 hl fun _ _ hl => ?_; refine Bb 10 hl fun _ hl => ?_; refine Bb 11 hl fun _ hl => ?_; refine Iz 12 hl fun _ hl => ?_; refine Bb 13 hl fun _ hl => ?_; refine Bb 100 hl fun _ hl => ?_; refine Bb 101 hl fun _ hl => ?_; exact Eq.mpr (A65 ..) hl,
  fun f h hl => by
    refine Bb 1 hl fun _ hl => ?_; refine Iz 8 hl fun _ hl => ?_; refine Bi 9 hl fun _ _ hl => ?_; refine Bb 10 hl fun _ hl => ?_; refine Bb 11 hl fun _ hl => ?_; refine Iz 12 hl fun _ hl => ?_; refine Bb 13 hl fun _ hl => ?_; refine Bb 16 hl fun _ hl => ?_; refine Bb 100 hl fun _ hl => ?_; refine Bb 101 hl fun _ hl => ?_; exact Eq.mpr (A64 ..) hl,
  fun f h hl => by
    refine Bi 0 hl fun _ _ hl => ?_; refine Bb 1 hl fun _ hl => ?_; refine Bb 2 hl fun _ hl => ?_; refine Iz 8 hl fun _ hl => ?_; refine Bi 9 hl fun _ _ hl => ?_; refine Bb 10 hl fun _ hl => ?_; exact Eq.mpr (A63 ..) hl,
  fun f h hl => by
    refine Bi 0 hl fun _ _ hl => ?_; refine Bb 1 hl fun _ hl => ?_; refine Bb 2 hl fun _ hl => ?_; refine Iz 8 hl fun _ hl => ?_; refine Bi 9 hl fun _ _ hl => ?_; exact Eq.mpr (A62 ..) hl,
  fun f h hl => by
    refine Bi 0 hl fun _ _ hl => ?_; refine Bb 1 hl fun _ hl => ?_; refine Bb 2 hl fun _ hl => ?_; refine Iz 8 hl fun _ hl => ?_; refine Bi 9 hl fun _ _ hl => ?_; exact Eq.mpr (A61 ..) hl,
  trivial⟩) rfl hg
theorem Bjb (hc : Cj c) {m : Nat} {a : List AV} (hg : Ik env c A3v A23 d176 (Gp env Tryz.f176.results.toList k) m 0 (Ac a) h) : zqs 176 a h k := Jg mixed Js hc A3v Tryz.func176 rfl (by kernel_rfl) (by kernel_rfl) (by kernel_rfl) (by simp [A23]) hg
theorem Avi (J : Axf) (b_1 : Bool) : zqe c k A3t A21 (f178 J) d178 Tryz.f178 .root (Af f 1 (.bool b_1)) h = Ar0 c k J (f 0) b_1 h := by kernel_rfl
theorem Bi9 (hc : Cj c) {n : Nat} {a : List AV} (hg : f178 (Aku c k n) 0 (Ac a) h) : zqs 178 a h k :=
 zqw hc A3t Tryz.func178 rfl (by kernel_rfl) (by kernel_rfl) k A21 (fun n => f178 (Aku c k n)) (fun L _ _ hl => match L, hl with
  | 0, hl => Ja hl fun _ hl => hl
  | _ + 1, hl => hl) (fun n => ⟨
  fun f h hl => by
    refine Iz 1 hl fun _ hl => ?_; exact Eq.mpr (Avi ..) hl,
  trivial⟩) rfl hg
theorem A9z (hc : Cj c) {n : Nat} {a : List AV} (hg : f178 (Aku c k n) 0 (Ac a) h) : A2f 178 a h k :=
 A9o hc A3t Tryz.func178 rfl (by kernel_rfl) (by kernel_rfl) k A21 (fun n => f178 (Aku c k n)) (fun L _ _ hl => match L, hl with
  | 0, hl => Ja hl fun _ hl => hl
  | _ + 1, hl => hl) (fun n => ⟨
  fun f h hl => by
    refine Iz 1 hl fun _ hl => ?_; exact Eq.mpr (Avi ..) hl,
  trivial⟩) rfl hg
theorem A6x (J : Axd) (l_0 c_0 : Nat) (n_1 : Int) : zqe c k Bcp Bbi (f207 J) d207 Tryz.f207 .root (Af (Af f 0 (.str l_0 c_0)) 1 (.int .u8 n_1)) h = Ad3 c k J l_0 c_0 n_1 h := by kernel_rfl
theorem Baa (hc : Cj c) {n : Nat} {a : List AV} (hg : f207 (Asg c k n) 0 (Ac a) h) : zqs 207 a h k :=
 zqw hc Bcp Tryz.func207 rfl (by kernel_rfl) (by kernel_rfl) k Bbi (fun n => f207 (Asg c k n)) (fun L _ _ hl => match L, hl with
  | 0, hl => Bj hl fun _ _ hl => Bc hl fun _ hl => hl
  | _ + 1, hl => hl) (fun n => ⟨
  fun f h hl => by
    refine Bi 0 hl fun _ _ hl => ?_; refine Bb 1 hl fun _ hl => ?_; exact Eq.mpr (A6x ..) hl,
  trivial⟩) rfl hg
theorem A6w (J : Amh) (n_1 : Int) : zqe c k A3r A2z (f208 J) d208 Tryz.f208 .root (Af f 1 (.int .i64 n_1)) h = Ad2 c k J (f 0) n_1 h := by kernel_rfl
theorem A6v (J : Amh) (n_1 : Int) : zqe c k A3r A2z (f208 J) d208 Tryz.f208 (.r (.r .root)) (Af f 1 (.int .i64 n_1)) h = Ad1 c k J (f 0) n_1 h := by kernel_rfl
theorem A99 (hc : Cj c) {n : Nat} {a : List AV} (hg : f208 (Akt c k n) 0 (Ac a) h) : zqs 208 a h k :=
 zqw hc A3r Tryz.func208 rfl (by kernel_rfl) (by kernel_rfl) k A2z (fun n => f208 (Akt c k n)) (fun L _ _ hl => match L, hl with
  | 0, hl => Bc hl fun _ hl => hl
  | 1, hl => Bc hl fun _ hl => hl
  | _ + 2, hl => hl) (fun n => ⟨
  fun f h hl => by
    refine Bb 1 hl fun _ hl => ?_; exact Eq.mpr (A6w ..) hl,
  fun f h hl => by
    refine Bb 1 hl fun _ hl => ?_; exact Eq.mpr (A6v ..) hl,
  trivial⟩) rfl hg
theorem A6r (J : Axb) (n_0 : Int) : zqe c k Bcn Bbg (f221 J) d221 Tryz.f221 .root (Af f 0 (.int .u8 n_0)) h = Ady c k J n_0 h := by kernel_rfl
theorem A96 (hc : Cj c) {n : Nat} {a : List AV} (hg : f221 (Ase c k n) 0 (Ac a) h) : zqs 221 a h k :=
 zqw hc Bcn Tryz.func221 rfl (by kernel_rfl) (by kernel_rfl) k Bbg (fun n => f221 (Ase c k n)) (fun L _ _ hl => match L, hl with
  | 0, hl => Bc hl fun _ hl => hl
  | _ + 1, hl => hl) (fun n => ⟨
  fun f h hl => by
    refine Bb 0 hl fun _ hl => ?_; exact Eq.mpr (A6r ..) hl,
  trivial⟩) rfl hg
theorem A6q (J : Axa) (l_0 c_0 : Nat) (l_1 c_1 : Nat) : zqe c k Bcm Bbf (f224 J) d224 Tryz.f224 .root (Af (Af f 0 (.str l_0 c_0)) 1 (.str l_1 c_1)) h = Adx c k J l_0 c_0 l_1 c_1 h := by kernel_rfl
theorem A95 (hc : Cj c) {n : Nat} {a : List AV} (hg : f224 (Asd c k n) 0 (Ac a) h) : zqs 224 a h k :=
 zqw hc Bcm Tryz.func224 rfl (by kernel_rfl) (by kernel_rfl) k Bbf (fun n => f224 (Asd c k n)) (fun L _ _ hl => match L, hl with
  | 0, hl => Bj hl fun _ _ hl => Bj hl fun _ _ hl => hl
  | _ + 1, hl => hl) (fun n => ⟨
  fun f h hl => by
    refine Bi 0 hl fun _ _ hl => ?_; refine Bi 1 hl fun _ _ hl => ?_; exact Eq.mpr (A6q ..) hl,
  trivial⟩) rfl hg
theorem Bi7 (hc : Cj c) {m : Nat} {a : List AV} (hg : Ik env c A3o A2w d227 (Gp env Tryz.f227.results.toList k) m 0 (Ac a) h) : zqs 227 a h k := Jg mixed Js hc A3o Tryz.func227 rfl (by kernel_rfl) (by kernel_rfl) (by kernel_rfl) (by simp [A2w]) hg
theorem Bi5 (hc : Cj c) {m : Nat} {a : List AV} (hg : Ik env c A3m A2u d230 (Gp env Tryz.f230.results.toList k) m 0 (Ac a) h) : zqs 230 a h k := Jg mixed Js hc A3m Tryz.func230 rfl (by kernel_rfl) (by kernel_rfl) (by kernel_rfl) (by simp [A2u]) hg
end Go.Den
