/-
  A part of the proof: the pieces are what the program An3.
-/
import Derived.Test.YtcnmehbkpaoolaaGreatDoorRunA1
import Derived.KernelRfl
namespace Go.Den
open Go.Proofs
set_option maxRecDepth 100000
variable {c : CF} {k : KV} {f : FT} {h : H}
theorem Bb1 (J : J23) (n_0 n_1 : Int) : zqe c k q23 u23 (f23 J) d23 Tryz.f23 .root (Af (Af f 0 (.int .i64 n_0)) 1 (.int .i64 n_1)) h = Ak9 c k J n_0 n_1 h := by kernel_rfl
theorem w23 (hc : Bg c) {n : Nat} {a : List AV} (hg : f23 (r23 c k n) 0 (Ab a) h) : zqs 23 a h k :=
 zqw hc q23 Tryz.func23 rfl (by kernel_rfl) (by kernel_rfl) k u23 (fun n => f23 (r23 c k n)) (fun L _ _ hl => match L, hl with
  | 0, hl => Bj hl fun _ hl => Bj hl fun _ hl => hl
  | _ + 1, hl => hl) (fun n => ⟨
  fun f h hl => by
    refine Bi 0 hl fun _ hl => ?_; refine Bi 1 hl fun _ hl => ?_; exact Eq.mpr (Bb1 ..) hl,
  trivial⟩) rfl hg
theorem w25 (hc : Bg c) {m : Nat} {a : List AV} (hg : Az env c q25 u25 d25 (Aw env Tryz.f25.results.toList k) m 0 (Ab a) h) : zqs 25 a h k := Ba mixed Br hc q25 Tryz.func25 rfl (by kernel_rfl) (by kernel_rfl) (by kernel_rfl) (by simp [u25]) hg
theorem Bb0 (J : J26) : zqe c k q26 u26 (f26 J) d26 Tryz.f26 .root f h = Ak8 c k J (f 0) h := by kernel_rfl
theorem w26 (hc : Bg c) {n : Nat} {a : List AV} (hg : f26 (r26 c k n) 0 (Ab a) h) : zqs 26 a h k :=
 zqw hc q26 Tryz.func26 rfl (by kernel_rfl) (by kernel_rfl) k u26 (fun n => f26 (r26 c k n)) (fun L _ _ hl => match L, hl with
  | 0, hl => hl
  | _ + 1, hl => hl) (fun n => ⟨
  fun f h hl => Eq.mpr (Bb0 ..) hl,
  trivial⟩) rfl hg
theorem Bbz (J : J28) (n_0 : Int) (b_1 : Bool) : zqe c k q28 u28 (f28 J) d28 Tryz.f28 .root (Af (Af f 0 (.int .i64 n_0)) 1 (.bool b_1)) h = Ak7 c k J n_0 b_1 h := by kernel_rfl
theorem Bby (J : J28) (b_1 : Bool) (n_5 : Int) (l_6 c_6 : Nat) (l_7 c_7 : Nat) : zqe c k q28 u28 (f28 J) d28 Tryz.f28 (.l (.l (.r (.r (.r (.r (.r .root))))))) (Af (Af (Af (Af f 1 (.bool b_1)) 5 (.int .u64 n_5)) 6 (.str l_6 c_6)) 7 (.str l_7 c_7)) h = Aaz c k J b_1 n_5 l_6 c_6 l_7 c_7 h := by kernel_rfl
theorem Bbx (J : J28) (l_6 c_6 : Nat) (l_7 c_7 : Nat) : zqe c k q28 u28 (f28 J) d28 Tryz.f28 (.r (.r (.r (.r (.r (.r (.r .root))))))) (Af (Af f 6 (.str l_6 c_6)) 7 (.str l_7 c_7)) h = Af4 c k J l_6 c_6 l_7 c_7 h := by kernel_rfl
theorem Bbw (J : J28) (b_1 : Bool) (n_5 : Int) (l_6 c_6 : Nat) : zqe c k q28 u28 (f28 J) d28 Tryz.f28 (.r (.r (.r (.r .root)))) (Af (Af (Af f 1 (.bool b_1)) 5 (.int .u64 n_5)) 6 (.str l_6 c_6)) h = Ak6 c k J b_1 n_5 l_6 c_6 h := by kernel_rfl
theorem w28 (hc : Bg c) {n : Nat} {a : List AV} (hg : f28 (r28 c k n) 0 (Ab a) h) : zqs 28 a h k :=
 zqw hc q28 Tryz.func28 rfl (by kernel_rfl) (by kernel_rfl) k u28 (fun n => f28 (r28 c k n)) (fun L _ _ hl => match L, hl with
  | 0, hl => Bj hl fun _ hl => Cy hl fun _ hl => hl
  | 1, hl => Cy hl fun _ hl => Bj hl fun _ hl => Cq hl fun _ _ hl => Cq hl fun _ _ hl => hl
  | 2, hl => Cq hl fun _ _ hl => Cq hl fun _ _ hl => hl
  | 3, hl => Cy hl fun _ hl => Bj hl fun _ hl => Cq hl fun _ _ hl => hl
  | _ + 4, hl => hl) (fun n => ⟨
  fun f h hl => by
    refine Bi 0 hl fun _ hl => ?_; refine Cw 1 hl fun _ hl => ?_; exact Eq.mpr (Bbz ..) hl,
  fun f h hl => by
    refine Cw 1 hl fun _ hl => ?_; refine Bi 5 hl fun _ hl => ?_; refine Cp 6 hl fun _ _ hl => ?_; refine Cp 7 hl fun _ _ hl => ?_; exact Eq.mpr (Bby ..) hl,
  fun f h hl => by
    refine Cp 6 hl fun _ _ hl => ?_; refine Cp 7 hl fun _ _ hl => ?_; exact Eq.mpr (Bbx ..) hl,
  fun f h hl => by
    refine Cw 1 hl fun _ hl => ?_; refine Bi 5 hl fun _ hl => ?_; refine Cp 6 hl fun _ _ hl => ?_; exact Eq.mpr (Bbw ..) hl,
  trivial⟩) rfl hg
theorem Bbv (J : J29) (l_0 c_0 : Nat) : zqe c k q29 u29 (f29 J) d29 Tryz.f29 .root (Af f 0 (.str l_0 c_0)) h = Ak5 c k J l_0 c_0 h := by kernel_rfl
theorem w29 (hc : Bg c) {n : Nat} {a : List AV} (hg : f29 (r29 c k n) 0 (Ab a) h) : zqs 29 a h k :=
 zqw hc q29 Tryz.func29 rfl (by kernel_rfl) (by kernel_rfl) k u29 (fun n => f29 (r29 c k n)) (fun L _ _ hl => match L, hl with
  | 0, hl => Cq hl fun _ _ hl => hl
  | _ + 1, hl => hl) (fun n => ⟨
  fun f h hl => by
    refine Cp 0 hl fun _ _ hl => ?_; exact Eq.mpr (Bbv ..) hl,
  trivial⟩) rfl hg
theorem w31 (hc : Bg c) {m : Nat} {a : List AV} (hg : Az env c q31 u31 d31 (Aw env Tryz.f31.results.toList k) m 0 (Ab a) h) : zqs 31 a h k := Ba mixed Br hc q31 Tryz.func31 rfl (by kernel_rfl) (by kernel_rfl) (by kernel_rfl) (by simp [u31]) hg
theorem Bbu (J : J46) (l_0 c_0 : Nat) (l_1 c_1 : Nat) : zqe c k q46 u46 (f46 J) d46 Tryz.f46 .root (Af (Af f 0 (.str l_0 c_0)) 1 (.str l_1 c_1)) h = Ak4 c k J l_0 c_0 l_1 c_1 h := by kernel_rfl
theorem Bbt (J : J46) (l_0 c_0 : Nat) (l_1 c_1 : Nat) (b_10 : Bool) (n_11 : Int) : zqe c k q46 u46 (f46 J) d46 Tryz.f46 (.l (.r (.l (.r (.r (.r (.r (.r (.r .root))))))))) (Af (Af (Af (Af f 0 (.str l_0 c_0)) 1 (.str l_1 c_1)) 10 (.bool b_10)) 11 (.int .i64 n_11)) h = Vl c k J l_0 c_0 l_1 c_1 (f 6) (f 7) (f 8) (f 9) b_10 n_11 h := by kernel_rfl
theorem Bbs (J : J46) (l_0 c_0 : Nat) (l_1 c_1 : Nat) (n_15 : Int) : zqe c k q46 u46 (f46 J) d46 Tryz.f46 (.r (.r (.r (.r (.r (.r (.r (.r (.l (.r (.l (.l (.r (.l (.r (.r (.r (.r (.r (.r .root)))))))))))))))))))) (Af (Af (Af f 0 (.str l_0 c_0)) 1 (.str l_1 c_1)) 15 (.int .i64 n_15)) h = Ak3 c k J l_0 c_0 l_1 c_1 (f 6) (f 7) (f 8) (f 9) n_15 h := by kernel_rfl
theorem Bbr (J : J46) : zqe c k q46 u46 (f46 J) d46 Tryz.f46 (.r (.r (.r (.r (.r (.r (.r (.r .root)))))))) f h = Ak2 c k J (f 7) (f 8) h := by kernel_rfl
theorem Bbq (J : J46) (l_1 c_1 : Nat) : zqe c k q46 u46 (f46 J) d46 Tryz.f46 (.r (.l (.r (.l (.l (.r (.l (.r (.r (.r (.l (.r (.l (.l (.r (.l (.r (.r (.r (.r (.r (.r .root)))))))))))))))))))))) (Af f 1 (.str l_1 c_1)) h = Axy c k J l_1 c_1 (f 7) (f 8) (f 9) h := by kernel_rfl
theorem Bbp (J : J46) (l_0 c_0 : Nat) (l_1 c_1 : Nat) (b_10 : Bool) (n_11 n_14 n_15 : Int) (b_16 : Bool) : zqe c k q46 u46 (f46 J) d46 Tryz.f46 (.r (.r (.r (.r (.r (.l (.r (.l (.l (.r (.l (.r (.r (.r (.r (.r (.r .root))))))))))))))))) (Af (Af (Af (Af (Af (Af (Af f 0 (.str l_0 c_0)) 1 (.str l_1 c_1)) 10 (.bool b_10)) 11 (.int .i64 n_11)) 14 (.int .i64 n_14)) 15 (.int .i64 n_15)) 16 (.bool b_16)) h = Ak1 c k J l_0 c_0 l_1 c_1 (f 6) (f 7) (f 8) (f 9) b_10 n_11 n_14 n_15 b_16 h := by kernel_rfl
theorem w46 (hc : Bg c) {n : Nat} {a : List AV} (hg : f46 (r46 c k n) 0 (Ab a) h) : zqs 46 a h k :=
 zqw hc q46 Tryz.func46 rfl (by kernel_rfl) (by kernel_rfl) k u46 (fun n => f46 (r46 c k n)) (fun L _ _ hl => match L, hl with
  | 0, hl => Cq hl fun _ _ hl => Cq hl fun _ _ hl => hl
  | 1, hl => Cq hl fun _ _ hl => Cq hl fun _ _ hl => Cy hl fun _ hl => Bj hl fun _ hl => hl
  | 2, hl => Cq hl fun _ _ hl => Cq hl fun _ _ hl => Bj hl fun _ hl => hl
  | 3, hl => hl
  | 4, hl => Cq hl fun _ _ hl => hl
  | 5, hl => Cq hl fun _ _ hl => Cq hl fun _ _ hl => Cy hl fun _ hl => Bj hl fun _ hl => Bj hl fun _ hl => Bj hl fun _ hl => Cy hl fun _ hl => hl
  | _ + 6, hl => hl) (fun n => ⟨
  fun f h hl => by
    refine Cp 0 hl fun _ _ hl => ?_; refine Cp 1 hl fun _ _ hl => ?_; exact Eq.mpr (Bbu ..) hl,
  fun f h hl => by
    refine Cp 0 hl fun _ _ hl => ?_; refine Cp 1 hl fun _ _ hl => ?_; refine Cw 10 hl fun _ hl => ?_; refine Bi 11 hl fun _ hl => ?_; exact Eq.mpr (Bbt ..) hl,
  fun f h hl => by
    refine Cp 0 hl fun _ _ hl => ?_; refine Cp 1 hl fun _ _ hl => ?_; refine Bi 15 hl fun _ hl => ?_; exact Eq.mpr (Bbs ..) hl,
  fun f h hl => Eq.mpr (Bbr ..) hl,
  fun f h hl => by
    refine Cp 1 hl fun _ _ hl => ?_; exact Eq.mpr (Bbq ..) hl,
  fun f h hl => by
    refine Cp 0 hl fun _ _ hl => ?_; refine Cp 1 hl fun _ _ hl => ?_; refine Cw 10 hl fun _ hl => ?_; refine Bi 11 hl fun _ hl => ?_; refine Bi 14 hl fun _ hl => ?_; refine Bi 15 hl fun _ hl => ?_; refine Cw 16 hl fun _ hl => ?_; exact Eq.mpr (Bbp ..) hl,
  trivial⟩) rfl hg
theorem w47 (hc : Bg c) {m : Nat} {a : List AV} (hg : Az env c q47 u47 d47 (Aw env Tryz.f47.results.toList k) m 0 (Ab a) h) : zqs 47 a h k := Ba mixed Br hc q47 Tryz.func47 rfl (by kernel_rfl) (by kernel_rfl) (by kernel_rfl) (by simp [u47]) hg
theorem w51 (hc : Bg c) {m : Nat} {a : List AV} (hg : Az env c q51 u51 d51 (Aw env Tryz.f51.results.toList k) m 0 (Ab a) h) : zqs 51 a h k := Ba mixed Br hc q51 Tryz.func51 rfl (by kernel_rfl) (by kernel_rfl) (by kernel_rfl) (by simp [u51]) hg
theorem w53 (hc : Bg c) {m : Nat} {a : List AV} (hg : Az env c q53 u53 d53 (Aw env Tryz.f53.results.toList k) m 0 (Ab a) h) : zqs 53 a h k := Ba mixed Br hc q53 Tryz.func53 rfl (by kernel_rfl) (by kernel_rfl) (by kernel_rfl) (by simp [u53]) hg
theorem w55 (hc : Bg c) {m : Nat} {a : List AV} (hg : Az env c q55 u55 d55 (Aw env Tryz.f55.results.toList k) m 0 (Ab a) h) : zqs 55 a h k := Ba mixed Br hc q55 Tryz.func55 rfl (by kernel_rfl) (by kernel_rfl) (by kernel_rfl) (by simp [u55]) hg
theorem w57 (hc : Bg c) {m : Nat} {a : List AV} (hg : Az env c q57 u57 d57 (Aw env Tryz.f57.results.toList k) m 0 (Ab a) h) : zqs 57 a h k := Ba mixed Br hc q57 Tryz.func57 rfl (by kernel_rfl) (by kernel_rfl) (by kernel_rfl) (by simp [u57]) hg
theorem Bbl (J : J64) (l_0 c_0 : Nat) : zqe c k q64 u64 (f64 J) d64 Tryz.f64 .root (Af f 0 (.str l_0 c_0)) h = Akx c k J l_0 c_0 h := by kernel_rfl
theorem Bbk (J : J64) (l_4 c_4 : Nat) (b_5 b_6 : Bool) (n_7 : Int) (l_8 c_8 : Nat) : zqe c k q64 u64 (f64 J) d64 Tryz.f64 (.r (.r (.r (.r (.r .root))))) (Af (Af (Af (Af (Af f 4 (.str l_4 c_4)) 5 (.bool b_5)) 6 (.bool b_6)) 7 (.int .i64 n_7)) 8 (.str l_8 c_8)) h = Akw c k J (f 2) l_4 c_4 b_5 b_6 n_7 l_8 c_8 h := by kernel_rfl
theorem w64 (hc : Bg c) {n : Nat} {a : List AV} (hg : f64 (r64 c k n) 0 (Ab a) h) : zqs 64 a h k :=
 zqw hc q64 Tryz.func64 rfl (by kernel_rfl) (by kernel_rfl) k u64 (fun n => f64 (r64 c k n)) (fun L _ _ hl => match L, hl with
  | 0, hl => Cq hl fun _ _ hl => hl
  | 1, hl => Cq hl fun _ _ hl => Cy hl fun _ hl => Cy hl fun _ hl => Bj hl fun _ hl => Cq hl fun _ _ hl => hl
  | _ + 2, hl => hl) (fun n => ⟨
  fun f h hl => by
    refine Cp 0 hl fun _ _ hl => ?_; exact Eq.mpr (Bbl ..) hl,
  fun f h hl => by
    refine Cp 4 hl fun _ _ hl => ?_; refine Cw 5 hl fun _ hl => ?_; refine Cw 6 hl fun _ hl => ?_; refine Bi 7 hl fun _ hl => ?_; refine Cp 8 hl fun _ _ hl => ?_; exact Eq.mpr (Bbk ..) hl,
  trivial⟩) rfl hg
theorem Bbj (J : J77) (l_0 c_0 : Nat) : zqe c k q77 u77 (f77 J) d77 Tryz.f77 .root (Af f 0 (.str l_0 c_0)) h = Akv c k J l_0 c_0 h := by kernel_rfl
theorem w77 (hc : Bg c) {n : Nat} {a : List AV} (hg : f77 (r77 c k n) 0 (Ab a) h) : zqs 77 a h k :=
 zqw hc q77 Tryz.func77 rfl (by kernel_rfl) (by kernel_rfl) k u77 (fun n => f77 (r77 c k n)) (fun L _ _ hl => match L, hl with
  | 0, hl => Cq hl fun _ _ hl => hl
  | _ + 1, hl => hl) (fun n => ⟨
  fun f h hl => by
    refine Cp 0 hl fun _ _ hl => ?_; exact Eq.mpr (Bbj ..) hl,
  trivial⟩) rfl hg
theorem Bbe (J : J80) (n_1 : Int) : zqe c k q80 u80 (f80 J) d80 Tryz.f80 .root (Af f 1 (.int .i64 n_1)) h = Akr c k J (f 0) n_1 h := by kernel_rfl
theorem Bbd (J : J80) (n_9 : Int) : zqe c k q80 u80 (f80 J) d80 Tryz.f80 (.l (.l (.r (.l (.r (.l (.r (.r (.r .root))))))))) (Af f 9 (.int .i64 n_9)) h = Akq c k J (f 0) n_9 h := by kernel_rfl
theorem Bbc (J : J80) (n_1 : Int) : zqe c k q80 u80 (f80 J) d80 Tryz.f80 (.r (.r (.r .root))) (Af f 1 (.int .i64 n_1)) h = Akp c k J (f 0) n_1 h := by kernel_rfl
theorem w80 (hc : Bg c) {n : Nat} {a : List AV} (hg : f80 (r80 c k n) 0 (Ab a) h) : zqs 80 a h k :=
 zqw hc q80 Tryz.func80 rfl (by kernel_rfl) (by kernel_rfl) k u80 (fun n => f80 (r80 c k n)) (fun L _ _ hl => match L, hl with
  | 0, hl => Bj hl fun _ hl => hl
  | 1, hl => Bj hl fun _ hl => hl
  | 2, hl => Bj hl fun _ hl => hl
  | _ + 3, hl => hl) (fun n => ⟨
  fun f h hl => by
    refine Bi 1 hl fun _ hl => ?_; exact Eq.mpr (Bbe ..) hl,
  fun f h hl => by
    refine Bi 9 hl fun _ hl => ?_; exact Eq.mpr (Bbd ..) hl,
  fun f h hl => by
    refine Bi 1 hl fun _ hl => ?_; exact Eq.mpr (Bbc ..) hl,
  trivial⟩) rfl hg
theorem Bbb (J : J81) : zqe c k q81 u81 (f81 J) d81 Tryz.f81 .root f h = Ako c k J (f 0) h := by kernel_rfl
theorem Bba (J : J81) (n_4 : Int) : zqe c k q81 u81 (f81 J) d81 Tryz.f81 (.l (.r (.l (.r (.r .root))))) (Af f 4 (.int .i64 n_4)) h = Akn c k J (f 0) (f 3) n_4 h := by kernel_rfl
theorem w81 (hc : Bg c) {n : Nat} {a : List AV} (hg : f81 (r81 c k n) 0 (Ab a) h) : zqs 81 a h k :=
 zqw hc q81 Tryz.func81 rfl (by kernel_rfl) (by kernel_rfl) k u81 (fun n => f81 (r81 c k n)) (fun L _ _ hl => match L, hl with
  | 0, hl => hl
  | 1, hl => Bj hl fun _ hl => hl
  | _ + 2, hl => hl) (fun n => ⟨
  fun f h hl => Eq.mpr (Bbb ..) hl,
  fun f h hl => by
    refine Bi 4 hl fun _ hl => ?_; exact Eq.mpr (Bba ..) hl,
  trivial⟩) rfl hg
theorem w82 (hc : Bg c) {m : Nat} {a : List AV} (hg : Az env c q82 u82 d82 (Aw env Tryz.f82.results.toList k) m 0 (Ab a) h) : zqs 82 a h k := Ba mixed Br hc q82 Tryz.func82 rfl (by kernel_rfl) (by kernel_rfl) (by kernel_rfl) (by simp [u82]) hg
theorem w84 (hc : Bg c) {m : Nat} {a : List AV} (hg : Az env c q84 u84 d84 (Aw env Tryz.f84.results.toList k) m 0 (Ab a) h) : zqs 84 a h k := Ba mixed Br hc q84 Tryz.func84 rfl (by kernel_rfl) (by kernel_rfl) (by kernel_rfl) (by simp [u84]) hg
theorem w86 (hc : Bg c) {m : Nat} {a : List AV} (hg : Az env c q86 u86 d86 (Aw env Tryz.f86.results.toList k) m 0 (Ab a) h) : zqs 86 a h k := Ba mixed Br hc q86 Tryz.func86 rfl (by kernel_rfl) (by kernel_rfl) (by kernel_rfl) (by simp [u86]) hg
theorem Ba7 (J : J88) (l_1 c_1 : Nat) : zqe c k q88 u88 (f88 J) d88 Tryz.f88 .root (Af f 1 (.str l_1 c_1)) h = Akl c k J (f 0) l_1 c_1 h := by kernel_rfl
theorem w88 (hc : Bg c) {n : Nat} {a : List AV} (hg : f88 (r88 c k n) 0 (Ab a) h) : zqs 88 a h k :=
 zqw hc q88 Tryz.func88 rfl (by kernel_rfl) (by kernel_rfl) k u88 (fun n => f88 (r88 c k n)) (fun L _ _ hl => match L, hl with
  | 0, hl => Cq hl fun _ _ hl => hl
  | _ + 1, hl => hl) (fun n => ⟨
  fun f h hl => by
    refine Cp 1 hl fun _ _ hl => ?_; exact Eq.mpr (Ba7 ..) hl,
  trivial⟩) rfl hg
theorem w93 (hc : Bg c) {m : Nat} {a : List AV} (hg : Az env c q93 u93 d93 (Aw env Tryz.f93.results.toList k) m 0 (Ab a) h) : zqs 93 a h k := Ba mixed Br hc q93 Tryz.func93 rfl (by kernel_rfl) (by kernel_rfl) (by kernel_rfl) (by simp [u93]) hg
theorem w96 (hc : Bg c) {m : Nat} {a : List AV} (hg : Az env c q96 u96 d96 (Aw env Tryz.f96.results.toList k) m 0 (Ab a) h) : zqs 96 a h k := Ba mixed Br hc q96 Tryz.func96 rfl (by kernel_rfl) (by kernel_rfl) (by kernel_rfl) (by simp [u96]) hg
theorem Bfn (hc : Bg c) {m : Nat} {a : List AV} (hg : Az env c A2b A0k d102 (Aw env Tryz.f102.results.toList k) m 0 (Ab a) h) : zqs 102 a h k := Ba mixed Br hc A2b Tryz.func102 rfl (by kernel_rfl) (by kernel_rfl) (by kernel_rfl) (by simp [A0k]) hg
theorem Bfl (hc : Bg c) {m : Nat} {a : List AV} (hg : Az env c A19 A0i d104 (Aw env Tryz.f104.results.toList k) m 0 (Ab a) h) : zqs 104 a h k := Ba mixed Br hc A19 Tryz.func104 rfl (by kernel_rfl) (by kernel_rfl) (by kernel_rfl) (by simp [A0i]) hg
theorem A51 (J : Akb) (l_0 c_0 : Nat) : zqe c k A17 A0g (f113 J) d113 Tryz.f113 .root (Af f 0 (.str l_0 c_0)) h = Ads c k J l_0 c_0 h := by kernel_rfl
theorem A50 (J : Akb) (l_0 c_0 : Nat) (b_2 : Bool) : zqe c k A17 A0g (f113 J) d113 Tryz.f113 (.r (.r .root)) (Af (Af f 0 (.str l_0 c_0)) 2 (.bool b_2)) h = Adr c k J l_0 c_0 b_2 h := by kernel_rfl
theorem A75 (hc : Bg c) {n : Nat} {a : List AV} (hg : f113 (Agg c k n) 0 (Ab a) h) : zqs 113 a h k :=
 zqw hc A17 Tryz.func113 rfl (by kernel_rfl) (by kernel_rfl) k A0g (fun n => f113 (Agg c k n)) (fun L _ _ hl => match L, hl with
  | 0, hl => Cq hl fun _ _ hl => hl
  | 1, hl => Cq hl fun _ _ hl => Cy hl fun _ hl => hl
  | _ + 2, hl => hl) (fun n => ⟨
  fun f h hl => by
    refine Cp 0 hl fun _ _ hl => ?_; exact Eq.mpr (A51 ..) hl,
  fun f h hl => by
    refine Cp 0 hl fun _ _ hl => ?_; refine Cw 2 hl fun _ hl => ?_; exact Eq.mpr (A50 ..) hl,
  trivial⟩) rfl hg
theorem A5z (J : Aul) (l_0 c_0 : Nat) : zqe c k A9w A8r (f114 J) d114 Tryz.f114 .root (Af f 0 (.str l_0 c_0)) h = Adq c k J l_0 c_0 h := by kernel_rfl
theorem A74 (hc : Bg c) {n : Nat} {a : List AV} (hg : f114 (Ap7 c k n) 0 (Ab a) h) : zqs 114 a h k :=
 zqw hc A9w Tryz.func114 rfl (by kernel_rfl) (by kernel_rfl) k A8r (fun n => f114 (Ap7 c k n)) (fun L _ _ hl => match L, hl with
  | 0, hl => Cq hl fun _ _ hl => hl
  | _ + 1, hl => hl) (fun n => ⟨
  fun f h hl => by
    refine Cp 0 hl fun _ _ hl => ?_; exact Eq.mpr (A5z ..) hl,
  trivial⟩) rfl hg
theorem A5y (J : Auk) (l_0 c_0 : Nat) (l_1 c_1 : Nat) : zqe c k A9v A8q (f115 J) d115 Tryz.f115 .root (Af (Af f 0 (.str l_0 c_0)) 1 (.str l_1 c_1)) h = Aip c k J l_0 c_0 l_1 c_1 h := by kernel_rfl
theorem A73 (hc : Bg c) {n : Nat} {a : List AV} (hg : f115 (Ap6 c k n) 0 (Ab a) h) : zqs 115 a h k :=
 zqw hc A9v Tryz.func115 rfl (by kernel_rfl) (by kernel_rfl) k A8q (fun n => f115 (Ap6 c k n)) (fun L _ _ hl => match L, hl with
  | 0, hl => Cq hl fun _ _ hl => Cq hl fun _ _ hl => hl
  | _ + 1, hl => hl) (fun n => ⟨
  fun f h hl => by
    refine Cp 0 hl fun _ _ hl => ?_; refine Cp 1 hl fun _ _ hl => ?_; exact Eq.mpr (A5y ..) hl,
  trivial⟩) rfl hg
theorem Bfj (hc : Bg c) {m : Nat} {a : List AV} (hg : Az env c A16 A0f d120 (Aw env Tryz.f120.results.toList k) m 0 (Ab a) h) : zqs 120 a h k := Ba mixed Br hc A16 Tryz.func120 rfl (by kernel_rfl) (by kernel_rfl) (by kernel_rfl) (by simp [A0f]) hg
theorem A5s (J : Afp) (l_0 c_0 : Nat) : zqe c k Avq Au0 (f128 J) d128 Tryz.f128 .root (Af f 0 (.str l_0 c_0)) h = Adm c k J l_0 c_0 h := by kernel_rfl
theorem A5r (J : Afp) (l_0 c_0 : Nat) (n_4 : Int) : zqe c k Avq Au0 (f128 J) d128 Tryz.f128 (.l (.r (.l (.r (.r .root))))) (Af (Af f 0 (.str l_0 c_0)) 4 (.int .i64 n_4)) h = Adl c k J l_0 c_0 (f 3) n_4 h := by kernel_rfl
theorem A5q (J : Afp) (l_0 c_0 : Nat) (n_4 : Int) : zqe c k Avq Au0 (f128 J) d128 Tryz.f128 (.r (.l (.r (.l (.l (.r (.l (.r (.r .root))))))))) (Af (Af f 0 (.str l_0 c_0)) 4 (.int .i64 n_4)) h = Adk c k J l_0 c_0 (f 3) n_4 h := by kernel_rfl
theorem A7z (hc : Bg c) {n : Nat} {a : List AV} (hg : f128 (Yg c k n) 0 (Ab a) h) : zqs 128 a h k :=
 zqw hc Avq Tryz.func128 rfl (by kernel_rfl) (by kernel_rfl) k Au0 (fun n => f128 (Yg c k n)) (fun L _ _ hl => match L, hl with
  | 0, hl => Cq hl fun _ _ hl => hl
  | 1, hl => Cq hl fun _ _ hl => Bj hl fun _ hl => hl
  | 2, hl => Cq hl fun _ _ hl => Bj hl fun _ hl => hl
  | _ + 3, hl => hl) (fun n => ⟨
  fun f h hl => by
    refine Cp 0 hl fun _ _ hl => ?_; exact Eq.mpr (A5s ..) hl,
  fun f h hl => by
    refine Cp 0 hl fun _ _ hl => ?_; refine Bi 4 hl fun _ hl => ?_; exact Eq.mpr (A5r ..) hl,
  fun f h hl => by
    refine Cp 0 hl fun _ _ hl => ?_; refine Bi 4 hl fun _ hl => ?_; exact Eq.mpr (A5q ..) hl,
  trivial⟩) rfl hg
theorem A5o (J : Aug) (n_1 : Int) : zqe c k A9r A8m (f130 J) d130 Tryz.f130 .root (Af f 1 (.int .i64 n_1)) h = Adi c k J (f 0) n_1 h := by kernel_rfl
theorem A7x (hc : Bg c) {n : Nat} {a : List AV} (hg : f130 (Ap2 c k n) 0 (Ab a) h) : zqs 130 a h k :=
 zqw hc A9r Tryz.func130 rfl (by kernel_rfl) (by kernel_rfl) k A8m (fun n => f130 (Ap2 c k n)) (fun L _ _ hl => match L, hl with
  | 0, hl => Bj hl fun _ hl => hl
  | _ + 1, hl => hl) (fun n => ⟨
  fun f h hl => by
    refine Bi 1 hl fun _ hl => ?_; exact Eq.mpr (A5o ..) hl,
  trivial⟩) rfl hg
theorem A5n (J : Afo) (n_1 : Int) : zqe c k Avp Auz (f131 J) d131 Tryz.f131 .root (Af f 1 (.int .i64 n_1)) h = Adh c k J (f 0) n_1 h := by kernel_rfl
theorem A5m (J : Afo) (n_5 n_6 : Int) : zqe c k Avp Auz (f131 J) d131 Tryz.f131 (.l (.r (.l (.r (.r .root))))) (Af (Af f 5 (.int .u8 n_5)) 6 (.int .i64 n_6)) h = Adg c k J (f 0) n_5 n_6 h := by kernel_rfl
theorem A5l (J : Afo) (n_5 n_6 : Int) : zqe c k Avp Auz (f131 J) d131 Tryz.f131 (.r (.r (.l (.l (.r (.l (.r (.r .root)))))))) (Af (Af f 5 (.int .u8 n_5)) 6 (.int .i64 n_6)) h = Xw c k J (f 0) n_5 n_6 h := by kernel_rfl
theorem A7w (hc : Bg c) {n : Nat} {a : List AV} (hg : f131 (Yf c k n) 0 (Ab a) h) : zqs 131 a h k :=
 zqw hc Avp Tryz.func131 rfl (by kernel_rfl) (by kernel_rfl) k Auz (fun n => f131 (Yf c k n)) (fun L _ _ hl => match L, hl with
  | 0, hl => Bj hl fun _ hl => hl
  | 1, hl => Bj hl fun _ hl => Bj hl fun _ hl => hl
  | 2, hl => Bj hl fun _ hl => Bj hl fun _ hl => hl
  | _ + 3, hl => hl) (fun n => ⟨
  fun f h hl => by
    refine Bi 1 hl fun _ hl => ?_; exact Eq.mpr (A5n ..) hl,
  fun f h hl => by
    refine Bi 5 hl fun _ hl => ?_; refine Bi 6 hl fun _ hl => ?_; exact Eq.mpr (A5m ..) hl,
  fun f h hl => by
    refine Bi 5 hl fun _ hl => ?_; refine Bi 6 hl fun _ hl => ?_; exact Eq.mpr (A5l ..) hl,
  trivial⟩) rfl hg
theorem A5i (J : Aka) (n_1 : Int) : zqe c k A15 A0e (f134 J) d134 Tryz.f134 .root (Af f 1 (.int .i64 n_1)) h = Adc c k J (f 0) n_1 h := by kernel_rfl
theorem A5h (J : Aka) (n_5 : Int) : zqe c k A15 A0e (f134 J) d134 Tryz.f134 (.l (.r (.r (.r .root)))) (Af f 5 (.int .i64 n_5)) h = Adb c k J (f 0) n_5 h := by kernel_rfl
theorem A7t (hc : Bg c) {n : Nat} {a : List AV} (hg : f134 (Agf c k n) 0 (Ab a) h) : zqs 134 a h k :=
 zqw hc A15 Tryz.func134 rfl (by kernel_rfl) (by kernel_rfl) k A0e (fun n => f134 (Agf c k n)) (fun L _ _ hl => match L, hl with
  | 0, hl => Bj hl fun _ hl => hl
  | 1, hl => Bj hl fun _ hl => hl
  | _ + 2, hl => hl) (fun n => ⟨
  fun f h hl => by
    refine Bi 1 hl fun _ hl => ?_; exact Eq.mpr (A5i ..) hl,
  fun f h hl => by
    refine Bi 5 hl fun _ hl => ?_; exact Eq.mpr (A5h ..) hl,
  trivial⟩) rfl hg
theorem A5g (J : Afn) (n_1 : Int) : zqe c k Avo Auy (f135 J) d135 Tryz.f135 .root (Af f 1 (.int .i64 n_1)) h = Ada c k J (f 0) n_1 h := by kernel_rfl
theorem A5f (J : Afn) (n_1 n_6 : Int) : zqe c k Avo Auy (f135 J) d135 Tryz.f135 (.l (.r (.l (.r (.r .root))))) (Af (Af f 1 (.int .i64 n_1)) 6 (.int .i64 n_6)) h = Ac9 c k J (f 0) n_1 (f 5) n_6 h := by kernel_rfl
theorem A5e (J : Afn) (n_1 n_6 n_7 : Int) : zqe c k Avo Auy (f135 J) d135 Tryz.f135 (.l (.l (.r (.l (.l (.r (.l (.l (.r (.l (.r (.r .root)))))))))))) (Af (Af (Af f 1 (.int .i64 n_1)) 6 (.int .i64 n_6)) 7 (.int .i64 n_7)) h = Ac8 c k J (f 0) n_1 (f 5) n_6 n_7 h := by kernel_rfl
theorem A7s (hc : Bg c) {n : Nat} {a : List AV} (hg : f135 (Ye c k n) 0 (Ab a) h) : zqs 135 a h k :=
 zqw hc Avo Tryz.func135 rfl (by kernel_rfl) (by kernel_rfl) k Auy (fun n => f135 (Ye c k n)) (fun L _ _ hl => match L, hl with
  | 0, hl => Bj hl fun _ hl => hl
  | 1, hl => Bj hl fun _ hl => Bj hl fun _ hl => hl
  | 2, hl => Bj hl fun _ hl => Bj hl fun _ hl => Bj hl fun _ hl => hl
  | _ + 3, hl => hl) (fun n => ⟨
  fun f h hl => by
    refine Bi 1 hl fun _ hl => ?_; exact Eq.mpr (A5g ..) hl,
  fun f h hl => by
    refine Bi 1 hl fun _ hl => ?_; refine Bi 6 hl fun _ hl => ?_; exact Eq.mpr (A5f ..) hl,
  fun f h hl => by
    refine Bi 1 hl fun _ hl => ?_; refine Bi 6 hl fun _ hl => ?_; refine Bi 7 hl fun _ hl => ?_; exact Eq.mpr (A5e ..) hl,
  trivial⟩) rfl hg
theorem A5d (J : Aud) (l_1 c_1 : Nat) : zqe c k A9o A8j (f136 J) d136 Tryz.f136 .root (Af f 1 (.str l_1 c_1)) h = Ac7 c k J (f 0) l_1 c_1 h := by kernel_rfl
theorem A7r (hc : Bg c) {n : Nat} {a : List AV} (hg : f136 (Apz c k n) 0 (Ab a) h) : zqs 136 a h k :=
 zqw hc A9o Tryz.func136 rfl (by kernel_rfl) (by kernel_rfl) k A8j (fun n => f136 (Apz c k n)) (fun L _ _ hl => match L, hl with
  | 0, hl => Cq hl fun _ _ hl => hl
  | _ + 1, hl => hl) (fun n => ⟨
  fun f h hl => by
    refine Cp 1 hl fun _ _ hl => ?_; exact Eq.mpr (A5d ..) hl,
  trivial⟩) rfl hg
theorem Bfh (hc : Bg c) {m : Nat} {a : List AV} (hg : Az env c A13 A0c d138 (Aw env Tryz.f138.results.toList k) m 0 (Ab a) h) : zqs 138 a h k := Ba mixed Br hc A13 Tryz.func138 rfl (by kernel_rfl) (by kernel_rfl) (by kernel_rfl) (by simp [A0c]) hg
theorem Bff (hc : Bg c) {m : Nat} {a : List AV} (hg : Az env c A10 Az9 d147 (Aw env Tryz.f147.results.toList k) m 0 (Ab a) h) : zqs 147 a h k := Ba mixed Br hc A10 Tryz.func147 rfl (by kernel_rfl) (by kernel_rfl) (by kernel_rfl) (by simp [Az9]) hg
theorem Bfd (hc : Bg c) {m : Nat} {a : List AV} (hg : Az env c A1y Az7 d154 (Aw env Tryz.f154.results.toList k) m 0 (Ab a) h) : zqs 154 a h k := Ba mixed Br hc A1y Tryz.func154 rfl (by kernel_rfl) (by kernel_rfl) (by kernel_rfl) (by simp [Az7]) hg
theorem Bfb (hc : Bg c) {m : Nat} {a : List AV} (hg : Az env c A1w Az5 d156 (Aw env Tryz.f156.results.toList k) m 0 (Ab a) h) : zqs 156 a h k := Ba mixed Br hc A1w Tryz.func156 rfl (by kernel_rfl) (by kernel_rfl) (by kernel_rfl) (by simp [Az5]) hg
theorem Be9 (hc : Bg c) {m : Nat} {a : List AV} (hg : Az env c A1u Az3 d158 (Aw env Tryz.f158.results.toList k) m 0 (Ab a) h) : zqs 158 a h k := Ba mixed Br hc A1u Tryz.func158 rfl (by kernel_rfl) (by kernel_rfl) (by kernel_rfl) (by simp [Az3]) hg
theorem Be7 (hc : Bg c) {m : Nat} {a : List AV} (hg : Az env c A1s Az1 d168 (Aw env Tryz.f168.results.toList k) m 0 (Ab a) h) : zqs 168 a h k := Ba mixed Br hc A1s Tryz.func168 rfl (by kernel_rfl) (by kernel_rfl) (by kernel_rfl) (by simp [Az1]) hg
theorem A46 (J : Aj8) (l_0 c_0 : Nat) : zqe c k A1r Az0 (f169 J) d169 Tryz.f169 .root (Af f 0 (.str l_0 c_0)) h = Ac0 c k J l_0 c_0 (f 1) h := by kernel_rfl
theorem A45 (J : Aj8) (l_0 c_0 : Nat) : zqe c k A1r Az0 (f169 J) d169 Tryz.f169 (.l (.l (.r .root))) (Af f 0 (.str l_0 c_0)) h = Acz c k J l_0 c_0 (f 1) h := by kernel_rfl
theorem A7n (hc : Bg c) {n : Nat} {a : List AV} (hg : f169 (Age c k n) 0 (Ab a) h) : zqs 169 a h k :=
 zqw hc A1r Tryz.func169 rfl (by kernel_rfl) (by kernel_rfl) k Az0 (fun n => f169 (Age c k n)) (fun L _ _ hl => match L, hl with
  | 0, hl => Cq hl fun _ _ hl => hl
  | 1, hl => Cq hl fun _ _ hl => hl
  | _ + 2, hl => hl) (fun n => ⟨
  fun f h hl => by
    refine Cp 0 hl fun _ _ hl => ?_; exact Eq.mpr (A46 ..) hl,
  fun f h hl => by
    refine Cp 0 hl fun _ _ hl => ?_; exact Eq.mpr (A45 ..) hl,
  trivial⟩) rfl hg
theorem A44 (J : Aub) (l_0 c_0 : Nat) (l_1 c_1 : Nat) : zqe c k A9m A8h (f171 J) d171 Tryz.f171 .root (Af (Af f 0 (.str l_0 c_0)) 1 (.str l_1 c_1)) h = Acy c k J l_0 c_0 l_1 c_1 h := by kernel_rfl
theorem A7m (hc : Bg c) {n : Nat} {a : List AV} (hg : f171 (Apx c k n) 0 (Ab a) h) : zqs 171 a h k :=
 zqw hc A9m Tryz.func171 rfl (by kernel_rfl) (by kernel_rfl) k A8h (fun n => f171 (Apx c k n)) (fun L _ _ hl => match L, hl with
  | 0, hl => Cq hl fun _ _ hl => Cq hl fun _ _ hl => hl
  | _ + 1, hl => hl) (fun n => ⟨
  fun f h hl => by
    refine Cp 0 hl fun _ _ hl => ?_; refine Cp 1 hl fun _ _ hl => ?_; exact Eq.mpr (A44 ..) hl,
  trivial⟩) rfl hg
theorem A4u (J : At9) : zqe c k A9k A8f (f182 J) d182 Tryz.f182 .root f h = Acn c k J  h := by kernel_rfl
theorem A7i (hc : Bg c) {n : Nat} {a : List AV} (hg : f182 (Apv c k n) 0 (Ab a) h) : zqs 182 a h k :=
 zqw hc A9k Tryz.func182 rfl (by kernel_rfl) (by kernel_rfl) k A8f (fun n => f182 (Apv c k n)) (fun L _ _ hl => match L, hl with
  | 0, hl => hl
  | _ + 1, hl => hl) (fun n => ⟨
  fun f h hl => Eq.mpr (A4u ..) hl,
  trivial⟩) rfl hg
theorem A4q (J : At7) (l_0 c_0 : Nat) (n_1 n_2 : Int) (b_3 : Bool) : zqe c k A9i A8d (f186 J) d186 Tryz.f186 .root (Af (Af (Af (Af f 0 (.str l_0 c_0)) 1 (.int .u64 n_1)) 2 (.int .u64 n_2)) 3 (.bool b_3)) h = Acj c k J l_0 c_0 n_1 n_2 b_3 h := by kernel_rfl
theorem A7f (hc : Bg c) {n : Nat} {a : List AV} (hg : f186 (Apt c k n) 0 (Ab a) h) : zqs 186 a h k :=
 zqw hc A9i Tryz.func186 rfl (by kernel_rfl) (by kernel_rfl) k A8d (fun n => f186 (Apt c k n)) (fun L _ _ hl => match L, hl with
  | 0, hl => Cq hl fun _ _ hl => Bj hl fun _ hl => Bj hl fun _ hl => Cy hl fun _ hl => hl
  | _ + 1, hl => hl) (fun n => ⟨
  fun f h hl => by
    refine Cp 0 hl fun _ _ hl => ?_; refine Bi 1 hl fun _ hl => ?_; refine Bi 2 hl fun _ hl => ?_; refine Cw 3 hl fun _ hl => ?_; exact Eq.mpr (A4q ..) hl,
  trivial⟩) rfl hg
theorem Be5 (hc : Bg c) {m : Nat} {a : List AV} (hg : Az env c A1m Azv d190 (Aw env Tryz.f190.results.toList k) m 0 (Ab a) h) : zqs 190 a h k := Ba mixed Br hc A1m Tryz.func190 rfl (by kernel_rfl) (by kernel_rfl) (by kernel_rfl) (by simp [Azv]) hg
theorem Be3 (hc : Bg c) {m : Nat} {a : List AV} (hg : Az env c A1k Azt d192 (Aw env Tryz.f192.results.toList k) m 0 (Ab a) h) : zqs 192 a h k := Ba mixed Br hc A1k Tryz.func192 rfl (by kernel_rfl) (by kernel_rfl) (by kernel_rfl) (by simp [Azt]) hg
theorem Be1 (hc : Bg c) {m : Nat} {a : List AV} (hg : Az env c A1i Azr d195 (Aw env Tryz.f195.results.toList k) m 0 (Ab a) h) : zqs 195 a h k := Ba mixed Br hc A1i Tryz.func195 rfl (by kernel_rfl) (by kernel_rfl) (by kernel_rfl) (by simp [Azr]) hg
theorem Bez (hc : Bg c) {m : Nat} {a : List AV} (hg : Az env c A1g Azp d202 (Aw env Tryz.f202.results.toList k) m 0 (Ab a) h) : zqs 202 a h k := Ba mixed Br hc A1g Tryz.func202 rfl (by kernel_rfl) (by kernel_rfl) (by kernel_rfl) (by simp [Azp]) hg
theorem A4j (J : At4) (n_0 : Int) : zqe c k A9f A8a (f221 J) d221 Tryz.f221 .root (Af f 0 (.int .u8 n_0)) h = Acd c k J n_0 h := by kernel_rfl
theorem A7a (hc : Bg c) {n : Nat} {a : List AV} (hg : f221 (Apq c k n) 0 (Ab a) h) : zqs 221 a h k :=
 zqw hc A9f Tryz.func221 rfl (by kernel_rfl) (by kernel_rfl) k A8a (fun n => f221 (Apq c k n)) (fun L _ _ hl => match L, hl with
  | 0, hl => Bj hl fun _ hl => hl
  | _ + 1, hl => hl) (fun n => ⟨
  fun f h hl => by
    refine Bi 0 hl fun _ hl => ?_; exact Eq.mpr (A4j ..) hl,
  trivial⟩) rfl hg
theorem A4i (J : At3) (l_0 c_0 : Nat) (l_1 c_1 : Nat) : zqe c k A9e A79 (f224 J) d224 Tryz.f224 .root (Af (Af f 0 (.str l_0 c_0)) 1 (.str l_1 c_1)) h = Acb c k J l_0 c_0 l_1 c_1 h := by kernel_rfl
theorem A69 (hc : Bg c) {n : Nat} {a : List AV} (hg : f224 (Apo c k n) 0 (Ab a) h) : zqs 224 a h k :=
 zqw hc A9e Tryz.func224 rfl (by kernel_rfl) (by kernel_rfl) k A79 (fun n => f224 (Apo c k n)) (fun L _ _ hl => match L, hl with
  | 0, hl => Cq hl fun _ _ hl => Cq hl fun _ _ hl => hl
  | _ + 1, hl => hl) (fun n => ⟨
  fun f h hl => by
    refine Cp 0 hl fun _ _ hl => ?_; refine Cp 1 hl fun _ _ hl => ?_; exact Eq.mpr (A4i ..) hl,
  trivial⟩) rfl hg
theorem A4h (J : Aj3) (l_1 c_1 : Nat) : zqe c k A1d Azm (f233 J) d233 Tryz.f233 .root (Af f 1 (.str l_1 c_1)) h = Aca c k J (f 0) l_1 c_1 h := by kernel_rfl
theorem A4g (J : Aj3) (l_1 c_1 : Nat) (n_7 n_8 : Int) : zqe c k A1d Azm (f233 J) d233 Tryz.f233 (.l (.r (.l (.r .root)))) (Af (Af (Af f 1 (.str l_1 c_1)) 7 (.int .i64 n_7)) 8 (.int .i64 n_8)) h = Ab9 c k J (f 0) l_1 c_1 n_7 n_8 h := by kernel_rfl
theorem A68 (hc : Bg c) {n : Nat} {a : List AV} (hg : f233 (Aga c k n) 0 (Ab a) h) : zqs 233 a h k :=
 zqw hc A1d Tryz.func233 rfl (by kernel_rfl) (by kernel_rfl) k Azm (fun n => f233 (Aga c k n)) (fun L _ _ hl => match L, hl with
  | 0, hl => Cq hl fun _ _ hl => hl
  | 1, hl => Cq hl fun _ _ hl => Bj hl fun _ hl => Bj hl fun _ hl => hl
  | _ + 2, hl => hl) (fun n => ⟨
  fun f h hl => by
    refine Cp 1 hl fun _ _ hl => ?_; exact Eq.mpr (A4h ..) hl,
  fun f h hl => by
    refine Cp 1 hl fun _ _ hl => ?_; refine Bi 7 hl fun _ hl => ?_; refine Bi 8 hl fun _ hl => ?_; exact Eq.mpr (A4g ..) hl,
  trivial⟩) rfl hg
theorem Bex (hc : Bg c) {m : Nat} {a : List AV} (hg : Az env c A1c Azl d234 (Aw env Tryz.f234.results.toList k) m 0 (Ab a) h) : zqs 234 a h k := Ba mixed Br hc A1c Tryz.func234 rfl (by kernel_rfl) (by kernel_rfl) (by kernel_rfl) (by simp [Azl]) hg
theorem Bev (hc : Bg c) {m : Nat} {a : List AV} (hg : Az env c A1a Azj d247 (Aw env Tryz.f247.results.toList k) m 0 (Ab a) h) : zqs 247 a h k := Ba mixed Br hc A1a Tryz.func247 rfl (by kernel_rfl) (by kernel_rfl) (by kernel_rfl) (by simp [Azj]) hg
theorem Bet (hc : Bg c) {m : Nat} {a : List AV} (hg : Az env c A08 Azh d249 (Aw env Tryz.f249.results.toList k) m 0 (Ab a) h) : zqs 249 a h k := Ba mixed Br hc A08 Tryz.func249 rfl (by kernel_rfl) (by kernel_rfl) (by kernel_rfl) (by simp [Azh]) hg
theorem Ber (hc : Bg c) {m : Nat} {a : List AV} (hg : Az env c A06 Azf d256 (Aw env Tryz.f256.results.toList k) m 0 (Ab a) h) : zqs 256 a h k := Ba mixed Br hc A06 Tryz.func256 rfl (by kernel_rfl) (by kernel_rfl) (by kernel_rfl) (by simp [Azf]) hg
theorem Bep (hc : Bg c) {m : Nat} {a : List AV} (hg : Az env c A04 Azd d283 (Aw env Tryz.f283.results.toList k) m 0 (Ab a) h) : zqs 283 a h k := Ba mixed Br hc A04 Tryz.func283 rfl (by kernel_rfl) (by kernel_rfl) (by kernel_rfl) (by simp [Azd]) hg
theorem Ben (hc : Bg c) {m : Nat} {a : List AV} (hg : Az env c A02 Azb d288 (Aw env Tryz.f288.results.toList k) m 0 (Ab a) h) : zqs 288 a h k := Ba mixed Br hc A02 Tryz.func288 rfl (by kernel_rfl) (by kernel_rfl) (by kernel_rfl) (by simp [Azb]) hg
theorem Bel (hc : Bg c) {m : Nat} {a : List AV} (hg : Az env c A00 Ay9 d303 (Aw env Tryz.f303.results.toList k) m 0 (Ab a) h) : zqs 303 a h k := Ba mixed Br hc A00 Tryz.func303 rfl (by kernel_rfl) (by kernel_rfl) (by kernel_rfl) (by simp [Ay9]) hg
end Go.Den
