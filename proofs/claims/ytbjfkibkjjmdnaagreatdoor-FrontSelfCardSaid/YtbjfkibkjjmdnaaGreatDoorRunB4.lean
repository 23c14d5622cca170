/-
  A part of the proof: the pieces are what the program does.
-/
import Derived.Test.YtbjfkibkjjmdnaaGreatDoorRunA1
import Derived.Test.YtbjfkibkjjmdnaaGreatDoorRunA2
import Derived.KernelRfl
namespace Go.Den
set_option maxRecDepth 100000
variable {c : Caller Prop FT} {k : KV} {f : FT} {h : H}
theorem e4_0 (J : J4) (n_0 : Int) (n_1 : Int) (b_2 : Bool) : zqe c k q4 u4 (f4 J) d4 Go.Proofs.Tryz.f4 .root (fset (fset (fset f 0 (.int .i64 n_0)) 1 (.int .i64 n_1)) 2 (.bool b_2)) h = s4_0 c k J n_0 n_1 b_2 h := by kernel_rfl
theorem e4_1 (J : J4) (n_0 : Int) (n_1 : Int) (b_2 : Bool) (l_7 : Nat) (c_7 : Nat) (n_8 : Int) : zqe c k q4 u4 (f4 J) d4 Go.Proofs.Tryz.f4 (.l (.r (.l (.r (.r (.r .root)))))) (fset (fset (fset (fset (fset f 0 (.int .i64 n_0)) 1 (.int .i64 n_1)) 2 (.bool b_2)) 7 (.str l_7 c_7)) 8 (.int .i64 n_8)) h = s4_1 c k J n_0 n_1 b_2 l_7 c_7 n_8 h := by kernel_rfl
theorem e4_2 (J : J4) (n_0 : Int) (n_1 : Int) (l_14 : Nat) (c_14 : Nat) : zqe c k q4 u4 (f4 J) d4 Go.Proofs.Tryz.f4 (.r (.r (.r (.r (.r (.r (.r (.r (.r (.r (.r .root))))))))))) (fset (fset (fset f 0 (.int .i64 n_0)) 1 (.int .i64 n_1)) 14 (.str l_14 c_14)) h = s4_2 c k J n_0 n_1 (f 13) l_14 c_14 h := by kernel_rfl
theorem e4_3 (J : J4) (n_0 : Int) (n_1 : Int) (b_2 : Bool) (l_7 : Nat) (c_7 : Nat) (l_9 : Nat) (c_9 : Nat) : zqe c k q4 u4 (f4 J) d4 Go.Proofs.Tryz.f4 (.r (.r (.r (.r (.r (.r .root)))))) (fset (fset (fset (fset (fset f 0 (.int .i64 n_0)) 1 (.int .i64 n_1)) 2 (.bool b_2)) 7 (.str l_7 c_7)) 9 (.str l_9 c_9)) h = s4_3 c k J n_0 n_1 b_2 l_7 c_7 l_9 c_9 h := by kernel_rfl
theorem w4 (hc : zqco c) {n : Nat} {a : List AV} (hg : f4 (r4 c k n) 0 (finit a) h) : zqs 4 a h k :=
 zqw hc q4 Go.Proofs.Tryz.func4 rfl (by kernel_rfl) (by kernel_rfl) k u4 (fun n => f4 (r4 c k n)) (fun L _ _ hl => match L, hl with
  | 0, hl => zqnI hl fun _ hl => zqnI hl fun _ hl => zqnB hl fun _ hl => hl
  | 1, hl => zqnI hl fun _ hl => zqnI hl fun _ hl => zqnB hl fun _ hl => zqnS hl fun _ _ hl => zqnI hl fun _ hl => hl
  | 2, hl => zqnI hl fun _ hl => zqnI hl fun _ hl => zqnS hl fun _ _ hl => hl
  | 3, hl => zqnI hl fun _ hl => zqnI hl fun _ hl => zqnB hl fun _ hl => zqnS hl fun _ _ hl => zqnS hl fun _ _ hl => hl
  | _ + 4, hl => hl) (fun n => ⟨
  fun f h hl => by
    refine zqrI 0 hl fun _ hl => ?_; refine zqrI 1 hl fun _ hl => ?_; refine zqrB 2 hl fun _ hl => ?_; exact Eq.mpr (e4_0 ..) hl,
  fun f h hl => by
    refine zqrI 0 hl fun _ hl => ?_; refine zqrI 1 hl fun _ hl => ?_; refine zqrB 2 hl fun _ hl => ?_; refine zqrS 7 hl fun _ _ hl => ?_; refine zqrI 8 hl fun _ hl => ?_; exact Eq.mpr (e4_1 ..) hl,
  fun f h hl => by
    refine zqrI 0 hl fun _ hl => ?_; refine zqrI 1 hl fun _ hl => ?_; refine zqrS 14 hl fun _ _ hl => ?_; exact Eq.mpr (e4_2 ..) hl,
  fun f h hl => by
    refine zqrI 0 hl fun _ hl => ?_; refine zqrI 1 hl fun _ hl => ?_; refine zqrB 2 hl fun _ hl => ?_; refine zqrS 7 hl fun _ _ hl => ?_; refine zqrS 9 hl fun _ _ hl => ?_; exact Eq.mpr (e4_3 ..) hl,
  trivial⟩) rfl hg

theorem e13_0 (J : J13) : zqe c k q13 u13 (f13 J) d13 Go.Proofs.Tryz.f13 .root f h = s13_0 c k J  h := by kernel_rfl
theorem w13 (hc : zqco c) {n : Nat} {a : List AV} (hg : f13 (r13 c k n) 0 (finit a) h) : zqs 13 a h k :=
 zqw hc q13 Go.Proofs.Tryz.func13 rfl (by kernel_rfl) (by kernel_rfl) k u13 (fun n => f13 (r13 c k n)) (fun L _ _ hl => match L, hl with
  | 0, hl => hl
  | _ + 1, hl => hl) (fun n => ⟨
  fun f h hl => Eq.mpr (e13_0 ..) hl,
  trivial⟩) rfl hg

theorem e14_0 (J : J14) : zqe c k q14 u14 (f14 J) d14 Go.Proofs.Tryz.f14 .root f h = s14_0 c k J (f 0) (f 1) h := by kernel_rfl
theorem e14_1 (J : J14) (n_10 : Int) : zqe c k q14 u14 (f14 J) d14 Go.Proofs.Tryz.f14 (.l (.r (.l (.r (.r (.r (.r .root))))))) (fset f 10 (.int .i64 n_10)) h = s14_1 c k J (f 1) (f 7) (f 9) n_10 h := by kernel_rfl
theorem w14 (hc : zqco c) {n : Nat} {a : List AV} (hg : f14 (r14 c k n) 0 (finit a) h) : zqs 14 a h k :=
 zqw hc q14 Go.Proofs.Tryz.func14 rfl (by kernel_rfl) (by kernel_rfl) k u14 (fun n => f14 (r14 c k n)) (fun L _ _ hl => match L, hl with
  | 0, hl => hl
  | 1, hl => zqnI hl fun _ hl => hl
  | _ + 2, hl => hl) (fun n => ⟨
  fun f h hl => Eq.mpr (e14_0 ..) hl,
  fun f h hl => by
    refine zqrI 10 hl fun _ hl => ?_; exact Eq.mpr (e14_1 ..) hl,
  trivial⟩) rfl hg

theorem e23_0 (J : J23) (l_1 : Nat) (c_1 : Nat) (l_2 : Nat) (c_2 : Nat) : zqe c k q23 u23 (f23 J) d23 Go.Proofs.Tryz.f23 .root (fset (fset f 1 (.str l_1 c_1)) 2 (.str l_2 c_2)) h = s23_0 c k J (f 0) l_1 c_1 l_2 c_2 h := by kernel_rfl
theorem w23 (hc : zqco c) {n : Nat} {a : List AV} (hg : f23 (r23 c k n) 0 (finit a) h) : zqs 23 a h k :=
 zqw hc q23 Go.Proofs.Tryz.func23 rfl (by kernel_rfl) (by kernel_rfl) k u23 (fun n => f23 (r23 c k n)) (fun L _ _ hl => match L, hl with
  | 0, hl => zqnS hl fun _ _ hl => zqnS hl fun _ _ hl => hl
  | _ + 1, hl => hl) (fun n => ⟨
  fun f h hl => by
    refine zqrS 1 hl fun _ _ hl => ?_; refine zqrS 2 hl fun _ _ hl => ?_; exact Eq.mpr (e23_0 ..) hl,
  trivial⟩) rfl hg

theorem w28 (hc : zqco c) {m : Nat} {a : List AV} (hg : runJ env c q28 u28 d28 (retA env Go.Proofs.Tryz.f28.results.toList k) m 0 (finit a) h) : zqs 28 a h k := fnI_ok mixed envOk hc q28 Go.Proofs.Tryz.func28 rfl (by kernel_rfl) (by kernel_rfl) (by kernel_rfl) (by simp [u28]) hg
theorem e38_0 (J : J38) : zqe c k q38 u38 (f38 J) d38 Go.Proofs.Tryz.f38 .root f h = s38_0 c k J (f 0) h := by kernel_rfl
theorem w38 (hc : zqco c) {n : Nat} {a : List AV} (hg : f38 (r38 c k n) 0 (finit a) h) : zqs 38 a h k :=
 zqw hc q38 Go.Proofs.Tryz.func38 rfl (by kernel_rfl) (by kernel_rfl) k u38 (fun n => f38 (r38 c k n)) (fun L _ _ hl => match L, hl with
  | 0, hl => hl
  | _ + 1, hl => hl) (fun n => ⟨
  fun f h hl => Eq.mpr (e38_0 ..) hl,
  trivial⟩) rfl hg

theorem e52_0 (J : J52) : zqe c k q52 u52 (f52 J) d52 Go.Proofs.Tryz.f52 .root f h = s52_0 c k J (f 0) h := by kernel_rfl
theorem w52 (hc : zqco c) {n : Nat} {a : List AV} (hg : f52 (r52 c k n) 0 (finit a) h) : zqs 52 a h k :=
 zqw hc q52 Go.Proofs.Tryz.func52 rfl (by kernel_rfl) (by kernel_rfl) k u52 (fun n => f52 (r52 c k n)) (fun L _ _ hl => match L, hl with
  | 0, hl => hl
  | _ + 1, hl => hl) (fun n => ⟨
  fun f h hl => Eq.mpr (e52_0 ..) hl,
  trivial⟩) rfl hg

theorem e63_0 (J : J63) (l_0 : Nat) (c_0 : Nat) : zqe c k q63 u63 (f63 J) d63 Go.Proofs.Tryz.f63 .root (fset f 0 (.str l_0 c_0)) h = s63_0 c k J l_0 c_0 h := by kernel_rfl
theorem w63 (hc : zqco c) {n : Nat} {a : List AV} (hg : f63 (r63 c k n) 0 (finit a) h) : zqs 63 a h k :=
 zqw hc q63 Go.Proofs.Tryz.func63 rfl (by kernel_rfl) (by kernel_rfl) k u63 (fun n => f63 (r63 c k n)) (fun L _ _ hl => match L, hl with
  | 0, hl => zqnS hl fun _ _ hl => hl
  | _ + 1, hl => hl) (fun n => ⟨
  fun f h hl => by
    refine zqrS 0 hl fun _ _ hl => ?_; exact Eq.mpr (e63_0 ..) hl,
  trivial⟩) rfl hg

theorem e70_0 (J : J70) (n_1 : Int) : zqe c k q70 u70 (f70 J) d70 Go.Proofs.Tryz.f70 .root (fset f 1 (.int .i64 n_1)) h = s70_0 c k J (f 0) n_1 (f 2) h := by kernel_rfl
theorem w70 (hc : zqco c) {n : Nat} {a : List AV} (hg : f70 (r70 c k n) 0 (finit a) h) : zqs 70 a h k :=
 zqw hc q70 Go.Proofs.Tryz.func70 rfl (by kernel_rfl) (by kernel_rfl) k u70 (fun n => f70 (r70 c k n)) (fun L _ _ hl => match L, hl with
  | 0, hl => zqnI hl fun _ hl => hl
  | _ + 1, hl => hl) (fun n => ⟨
  fun f h hl => by
    refine zqrI 1 hl fun _ hl => ?_; exact Eq.mpr (e70_0 ..) hl,
  trivial⟩) rfl hg

theorem e71_0 (J : J71) : zqe c k q71 u71 (f71 J) d71 Go.Proofs.Tryz.f71 .root f h = s71_0 c k J (f 0) h := by kernel_rfl
theorem w71 (hc : zqco c) {n : Nat} {a : List AV} (hg : f71 (r71 c k n) 0 (finit a) h) : zqs 71 a h k :=
 zqw hc q71 Go.Proofs.Tryz.func71 rfl (by kernel_rfl) (by kernel_rfl) k u71 (fun n => f71 (r71 c k n)) (fun L _ _ hl => match L, hl with
  | 0, hl => hl
  | _ + 1, hl => hl) (fun n => ⟨
  fun f h hl => Eq.mpr (e71_0 ..) hl,
  trivial⟩) rfl hg

theorem e75_0 (J : J75) : zqe c k q75 u75 (f75 J) d75 Go.Proofs.Tryz.f75 .root f h = s75_0 c k J (f 0) h := by kernel_rfl
theorem e75_1 (J : J75) : zqe c k q75 u75 (f75 J) d75 Go.Proofs.Tryz.f75 (.l (.r (.r .root))) f h = s75_1 c k J (f 0) (f 2) h := by kernel_rfl
theorem w75 (hc : zqco c) {n : Nat} {a : List AV} (hg : f75 (r75 c k n) 0 (finit a) h) : zqs 75 a h k :=
 zqw hc q75 Go.Proofs.Tryz.func75 rfl (by kernel_rfl) (by kernel_rfl) k u75 (fun n => f75 (r75 c k n)) (fun L _ _ hl => match L, hl with
  | 0, hl => hl
  | 1, hl => hl
  | _ + 2, hl => hl) (fun n => ⟨
  fun f h hl => Eq.mpr (e75_0 ..) hl,
  fun f h hl => Eq.mpr (e75_1 ..) hl,
  trivial⟩) rfl hg

theorem e78_0 (J : J78) : zqe c k q78 u78 (f78 J) d78 Go.Proofs.Tryz.f78 .root f h = s78_0 c k J (f 0) (f 1) h := by kernel_rfl
theorem e78_1 (J : J78) : zqe c k q78 u78 (f78 J) d78 Go.Proofs.Tryz.f78 (.r (.r (.r (.r .root)))) f h = s78_1 c k J (f 0) (f 3) h := by kernel_rfl
theorem w78 (hc : zqco c) {n : Nat} {a : List AV} (hg : f78 (r78 c k n) 0 (finit a) h) : zqs 78 a h k :=
 zqw hc q78 Go.Proofs.Tryz.func78 rfl (by kernel_rfl) (by kernel_rfl) k u78 (fun n => f78 (r78 c k n)) (fun L _ _ hl => match L, hl with
  | 0, hl => hl
  | 1, hl => hl
  | _ + 2, hl => hl) (fun n => ⟨
  fun f h hl => Eq.mpr (e78_0 ..) hl,
  fun f h hl => Eq.mpr (e78_1 ..) hl,
  trivial⟩) rfl hg

theorem e79_0 (J : J79) (l_0 : Nat) (c_0 : Nat) : zqe c k q79 u79 (f79 J) d79 Go.Proofs.Tryz.f79 .root (fset f 0 (.str l_0 c_0)) h = s79_0 c k J l_0 c_0 h := by kernel_rfl
theorem e79_1 (J : J79) (l_0 : Nat) (c_0 : Nat) (n_3 : Int) : zqe c k q79 u79 (f79 J) d79 Go.Proofs.Tryz.f79 (.lab (.r .root) 0) (fset (fset f 0 (.str l_0 c_0)) 3 (.int .i64 n_3)) h = s79_1 c k J l_0 c_0 (f 2) n_3 h := by kernel_rfl
theorem w79 (hc : zqco c) {n : Nat} {a : List AV} (hg : f79 (r79 c k n) 0 (finit a) h) : zqs 79 a h k :=
 zqw hc q79 Go.Proofs.Tryz.func79 rfl (by kernel_rfl) (by kernel_rfl) k u79 (fun n => f79 (r79 c k n)) (fun L _ _ hl => match L, hl with
  | 0, hl => zqnS hl fun _ _ hl => hl
  | 1, hl => zqnS hl fun _ _ hl => zqnI hl fun _ hl => hl
  | _ + 2, hl => hl) (fun n => ⟨
  fun f h hl => by
    refine zqrS 0 hl fun _ _ hl => ?_; exact Eq.mpr (e79_0 ..) hl,
  fun f h hl => by
    refine zqrS 0 hl fun _ _ hl => ?_; refine zqrI 3 hl fun _ hl => ?_; exact Eq.mpr (e79_1 ..) hl,
  trivial⟩) rfl hg

theorem e80_0 (J : J80) (n_1 : Int) : zqe c k q80 u80 (f80 J) d80 Go.Proofs.Tryz.f80 .root (fset f 1 (.int .u8 n_1)) h = s80_0 c k J (f 0) n_1 h := by kernel_rfl
theorem w80 (hc : zqco c) {n : Nat} {a : List AV} (hg : f80 (r80 c k n) 0 (finit a) h) : zqs 80 a h k :=
 zqw hc q80 Go.Proofs.Tryz.func80 rfl (by kernel_rfl) (by kernel_rfl) k u80 (fun n => f80 (r80 c k n)) (fun L _ _ hl => match L, hl with
  | 0, hl => zqnI hl fun _ hl => hl
  | _ + 1, hl => hl) (fun n => ⟨
  fun f h hl => by
    refine zqrI 1 hl fun _ hl => ?_; exact Eq.mpr (e80_0 ..) hl,
  trivial⟩) rfl hg

theorem e92_0 (J : J92) : zqe c k q92 u92 (f92 J) d92 Go.Proofs.Tryz.f92 .root f h = s92_0 c k J (f 0) (f 1) h := by kernel_rfl
theorem w92 (hc : zqco c) {n : Nat} {a : List AV} (hg : f92 (r92 c k n) 0 (finit a) h) : zqs 92 a h k :=
 zqw hc q92 Go.Proofs.Tryz.func92 rfl (by kernel_rfl) (by kernel_rfl) k u92 (fun n => f92 (r92 c k n)) (fun L _ _ hl => match L, hl with
  | 0, hl => hl
  | _ + 1, hl => hl) (fun n => ⟨
  fun f h hl => Eq.mpr (e92_0 ..) hl,
  trivial⟩) rfl hg

theorem e101_0 (J : J101) : zqe c k q101 u101 (f101 J) d101 Go.Proofs.Tryz.f101 .root f h = s101_0 c k J (f 0) (f 1) h := by kernel_rfl
theorem w101 (hc : zqco c) {n : Nat} {a : List AV} (hg : f101 (r101 c k n) 0 (finit a) h) : zqs 101 a h k :=
 zqw hc q101 Go.Proofs.Tryz.func101 rfl (by kernel_rfl) (by kernel_rfl) k u101 (fun n => f101 (r101 c k n)) (fun L _ _ hl => match L, hl with
  | 0, hl => hl
  | _ + 1, hl => hl) (fun n => ⟨
  fun f h hl => Eq.mpr (e101_0 ..) hl,
  trivial⟩) rfl hg

theorem w111 (hc : zqco c) {m : Nat} {a : List AV} (hg : runJ env c q111 u111 d111 (retA env Go.Proofs.Tryz.f111.results.toList k) m 0 (finit a) h) : zqs 111 a h k := fnI_ok mixed envOk hc q111 Go.Proofs.Tryz.func111 rfl (by kernel_rfl) (by kernel_rfl) (by kernel_rfl) (by simp [u111]) hg
theorem e112_0 (J : J112) (l_0 : Nat) (c_0 : Nat) (l_1 : Nat) (c_1 : Nat) : zqe c k q112 u112 (f112 J) d112 Go.Proofs.Tryz.f112 .root (fset (fset f 0 (.str l_0 c_0)) 1 (.str l_1 c_1)) h = s112_0 c k J l_0 c_0 l_1 c_1 h := by kernel_rfl
theorem w112 (hc : zqco c) {n : Nat} {a : List AV} (hg : f112 (r112 c k n) 0 (finit a) h) : zqs 112 a h k :=
 zqw hc q112 Go.Proofs.Tryz.func112 rfl (by kernel_rfl) (by kernel_rfl) k u112 (fun n => f112 (r112 c k n)) (fun L _ _ hl => match L, hl with
  | 0, hl => zqnS hl fun _ _ hl => zqnS hl fun _ _ hl => hl
  | _ + 1, hl => hl) (fun n => ⟨
  fun f h hl => by
    refine zqrS 0 hl fun _ _ hl => ?_; refine zqrS 1 hl fun _ _ hl => ?_; exact Eq.mpr (e112_0 ..) hl,
  trivial⟩) rfl hg

theorem e119_0 (J : J119) (n_1 : Int) : zqe c k q119 u119 (f119 J) d119 Go.Proofs.Tryz.f119 .root (fset f 1 (.int .i64 n_1)) h = s119_0 c k J (f 0) n_1 h := by kernel_rfl
theorem w119 (hc : zqco c) {n : Nat} {a : List AV} (hg : f119 (r119 c k n) 0 (finit a) h) : zqs 119 a h k :=
 zqw hc q119 Go.Proofs.Tryz.func119 rfl (by kernel_rfl) (by kernel_rfl) k u119 (fun n => f119 (r119 c k n)) (fun L _ _ hl => match L, hl with
  | 0, hl => zqnI hl fun _ hl => hl
  | _ + 1, hl => hl) (fun n => ⟨
  fun f h hl => by
    refine zqrI 1 hl fun _ hl => ?_; exact Eq.mpr (e119_0 ..) hl,
  trivial⟩) rfl hg

theorem w122 (hc : zqco c) {m : Nat} {a : List AV} (hg : runJ env c q122 u122 d122 (retA env Go.Proofs.Tryz.f122.results.toList k) m 0 (finit a) h) : zqs 122 a h k := fnI_ok mixed envOk hc q122 Go.Proofs.Tryz.func122 rfl (by kernel_rfl) (by kernel_rfl) (by kernel_rfl) (by simp [u122]) hg
theorem w127 (hc : zqco c) {m : Nat} {a : List AV} (hg : runJ env c q127 u127 d127 (retA env Go.Proofs.Tryz.f127.results.toList k) m 0 (finit a) h) : zqs 127 a h k := fnI_ok mixed envOk hc q127 Go.Proofs.Tryz.func127 rfl (by kernel_rfl) (by kernel_rfl) (by kernel_rfl) (by simp [u127]) hg
theorem w138 (hc : zqco c) {m : Nat} {a : List AV} (hg : runJ env c q138 u138 d138 (retA env Go.Proofs.Tryz.f138.results.toList k) m 0 (finit a) h) : zqs 138 a h k := fnI_ok mixed envOk hc q138 Go.Proofs.Tryz.func138 rfl (by kernel_rfl) (by kernel_rfl) (by kernel_rfl) (by simp [u138]) hg
theorem w142 (hc : zqco c) {m : Nat} {a : List AV} (hg : runJ env c q142 u142 d142 (retA env Go.Proofs.Tryz.f142.results.toList k) m 0 (finit a) h) : zqs 142 a h k := fnI_ok mixed envOk hc q142 Go.Proofs.Tryz.func142 rfl (by kernel_rfl) (by kernel_rfl) (by kernel_rfl) (by simp [u142]) hg
theorem w146 (hc : zqco c) {m : Nat} {a : List AV} (hg : runJ env c q146 u146 d146 (retA env Go.Proofs.Tryz.f146.results.toList k) m 0 (finit a) h) : zqs 146 a h k := fnI_ok mixed envOk hc q146 Go.Proofs.Tryz.func146 rfl (by kernel_rfl) (by kernel_rfl) (by kernel_rfl) (by simp [u146]) hg
theorem w150 (hc : zqco c) {m : Nat} {a : List AV} (hg : runJ env c q150 u150 d150 (retA env Go.Proofs.Tryz.f150.results.toList k) m 0 (finit a) h) : zqs 150 a h k := fnI_ok mixed envOk hc q150 Go.Proofs.Tryz.func150 rfl (by kernel_rfl) (by kernel_rfl) (by kernel_rfl) (by simp [u150]) hg
theorem w155 (hc : zqco c) {m : Nat} {a : List AV} (hg : runJ env c q155 u155 d155 (retA env Go.Proofs.Tryz.f155.results.toList k) m 0 (finit a) h) : zqs 155 a h k := fnI_ok mixed envOk hc q155 Go.Proofs.Tryz.func155 rfl (by kernel_rfl) (by kernel_rfl) (by kernel_rfl) (by simp [u155]) hg
theorem e158_0 (J : J158) (l_0 : Nat) (c_0 : Nat) (l_1 : Nat) (c_1 : Nat) : zqe c k q158 u158 (f158 J) d158 Go.Proofs.Tryz.f158 .root (fset (fset f 0 (.str l_0 c_0)) 1 (.str l_1 c_1)) h = s158_0 c k J l_0 c_0 l_1 c_1 h := by kernel_rfl
theorem e158_1 (J : J158) (l_0 : Nat) (c_0 : Nat) (l_1 : Nat) (c_1 : Nat) (n_5 : Int) (n_6 : Int) (n_7 : Int) (n_8 : Int) (n_9 : Int) (n_10 : Int) : zqe c k q158 u158 (f158 J) d158 Go.Proofs.Tryz.f158 (.l (.l (.r (.r (.r (.r (.r (.r (.r (.r .root)))))))))) (fset (fset (fset (fset (fset (fset (fset (fset f 0 (.str l_0 c_0)) 1 (.str l_1 c_1)) 5 (.int .i64 n_5)) 6 (.int .u8 n_6)) 7 (.int .u8 n_7)) 8 (.int .i64 n_8)) 9 (.int .i64 n_9)) 10 (.int .i64 n_10)) h = s158_1 c k J l_0 c_0 l_1 c_1 n_5 n_6 n_7 n_8 n_9 n_10 h := by kernel_rfl
theorem e158_2 (J : J158) (l_0 : Nat) (c_0 : Nat) (l_1 : Nat) (c_1 : Nat) (n_5 : Int) (n_6 : Int) (n_7 : Int) (n_8 : Int) (n_9 : Int) (n_10 : Int) : zqe c k q158 u158 (f158 J) d158 Go.Proofs.Tryz.f158 (.r (.l (.r (.l (.l (.l (.r (.r (.r (.r (.r (.r (.r (.r .root)))))))))))))) (fset (fset (fset (fset (fset (fset (fset (fset f 0 (.str l_0 c_0)) 1 (.str l_1 c_1)) 5 (.int .i64 n_5)) 6 (.int .u8 n_6)) 7 (.int .u8 n_7)) 8 (.int .i64 n_8)) 9 (.int .i64 n_9)) 10 (.int .i64 n_10)) h = s158_2 c k J l_0 c_0 l_1 c_1 n_5 n_6 n_7 n_8 n_9 n_10 h := by kernel_rfl
theorem w158 (hc : zqco c) {n : Nat} {a : List AV} (hg : f158 (r158 c k n) 0 (finit a) h) : zqs 158 a h k :=
 zqw hc q158 Go.Proofs.Tryz.func158 rfl (by kernel_rfl) (by kernel_rfl) k u158 (fun n => f158 (r158 c k n)) (fun L _ _ hl => match L, hl with
  | 0, hl => zqnS hl fun _ _ hl => zqnS hl fun _ _ hl => hl
  | 1, hl => zqnS hl fun _ _ hl => zqnS hl fun _ _ hl => zqnI hl fun _ hl => zqnI hl fun _ hl => zqnI hl fun _ hl => zqnI hl fun _ hl => zqnI hl fun _ hl => zqnI hl fun _ hl => hl
  | 2, hl => zqnS hl fun _ _ hl => zqnS hl fun _ _ hl => zqnI hl fun _ hl => zqnI hl fun _ hl => zqnI hl fun _ hl => zqnI hl fun _ hl => zqnI hl fun _ hl => zqnI hl fun _ hl => hl
  | _ + 3, hl => hl) (fun n => ⟨
  fun f h hl => by
    refine zqrS 0 hl fun _ _ hl => ?_; refine zqrS 1 hl fun _ _ hl => ?_; exact Eq.mpr (e158_0 ..) hl,
  fun f h hl => by
    refine zqrS 0 hl fun _ _ hl => ?_; refine zqrS 1 hl fun _ _ hl => ?_; refine zqrI 5 hl fun _ hl => ?_; refine zqrI 6 hl fun _ hl => ?_; refine zqrI 7 hl fun _ hl => ?_; refine zqrI 8 hl fun _ hl => ?_; refine zqrI 9 hl fun _ hl => ?_; refine zqrI 10 hl fun _ hl => ?_; exact Eq.mpr (e158_1 ..) hl,
  fun f h hl => by
    refine zqrS 0 hl fun _ _ hl => ?_; refine zqrS 1 hl fun _ _ hl => ?_; refine zqrI 5 hl fun _ hl => ?_; refine zqrI 6 hl fun _ hl => ?_; refine zqrI 7 hl fun _ hl => ?_; refine zqrI 8 hl fun _ hl => ?_; refine zqrI 9 hl fun _ hl => ?_; refine zqrI 10 hl fun _ hl => ?_; exact Eq.mpr (e158_2 ..) hl,
  trivial⟩) rfl hg

theorem e159_0 (J : J159) : zqe c k q159 u159 (f159 J) d159 Go.Proofs.Tryz.f159 .root f h = s159_0 c k J (f 0) (f 1) h := by kernel_rfl
theorem w159 (hc : zqco c) {n : Nat} {a : List AV} (hg : f159 (r159 c k n) 0 (finit a) h) : zqs 159 a h k :=
 zqw hc q159 Go.Proofs.Tryz.func159 rfl (by kernel_rfl) (by kernel_rfl) k u159 (fun n => f159 (r159 c k n)) (fun L _ _ hl => match L, hl with
  | 0, hl => hl
  | _ + 1, hl => hl) (fun n => ⟨
  fun f h hl => Eq.mpr (e159_0 ..) hl,
  trivial⟩) rfl hg

theorem w165 (hc : zqco c) {m : Nat} {a : List AV} (hg : runJ env c q165 u165 d165 (retA env Go.Proofs.Tryz.f165.results.toList k) m 0 (finit a) h) : zqs 165 a h k := fnI_ok mixed envOk hc q165 Go.Proofs.Tryz.func165 rfl (by kernel_rfl) (by kernel_rfl) (by kernel_rfl) (by simp [u165]) hg
theorem e168_0 (J : J168) (n_1 : Int) : zqe c k q168 u168 (f168 J) d168 Go.Proofs.Tryz.f168 .root (fset f 1 (.int .i64 n_1)) h = s168_0 c k J (f 0) n_1 h := by kernel_rfl
theorem e168_1 (J : J168) (n_1 : Int) : zqe c k q168 u168 (f168 J) d168 Go.Proofs.Tryz.f168 (.l (.r (.r .root))) (fset f 1 (.int .i64 n_1)) h = s168_1 c k J (f 0) n_1 h := by kernel_rfl
theorem w168 (hc : zqco c) {n : Nat} {a : List AV} (hg : f168 (r168 c k n) 0 (finit a) h) : zqs 168 a h k :=
 zqw hc q168 Go.Proofs.Tryz.func168 rfl (by kernel_rfl) (by kernel_rfl) k u168 (fun n => f168 (r168 c k n)) (fun L _ _ hl => match L, hl with
  | 0, hl => zqnI hl fun _ hl => hl
  | 1, hl => zqnI hl fun _ hl => hl
  | _ + 2, hl => hl) (fun n => ⟨
  fun f h hl => by
    refine zqrI 1 hl fun _ hl => ?_; exact Eq.mpr (e168_0 ..) hl,
  fun f h hl => by
    refine zqrI 1 hl fun _ hl => ?_; exact Eq.mpr (e168_1 ..) hl,
  trivial⟩) rfl hg

theorem w172 (hc : zqco c) {m : Nat} {a : List AV} (hg : runJ env c q172 u172 d172 (retA env Go.Proofs.Tryz.f172.results.toList k) m 0 (finit a) h) : zqs 172 a h k := fnI_ok mixed envOk hc q172 Go.Proofs.Tryz.func172 rfl (by kernel_rfl) (by kernel_rfl) (by kernel_rfl) (by simp [u172]) hg
theorem e177_0 (J : J177) (l_1 : Nat) (c_1 : Nat) : zqe c k q177 u177 (f177 J) d177 Go.Proofs.Tryz.f177 .root (fset f 1 (.str l_1 c_1)) h = s177_0 c k J (f 0) l_1 c_1 h := by kernel_rfl
theorem e177_1 (J : J177) (l_1 : Nat) (c_1 : Nat) (n_20 : Int) (n_21 : Int) : zqe c k q177 u177 (f177 J) d177 Go.Proofs.Tryz.f177 (.l (.r (.l (.r (.r .root))))) (fset (fset (fset f 1 (.str l_1 c_1)) 20 (.int .i64 n_20)) 21 (.int .i64 n_21)) h = s177_1 c k J (f 0) l_1 c_1 n_20 n_21 h := by kernel_rfl
theorem w177 (hc : zqco c) {n : Nat} {a : List AV} (hg : f177 (r177 c k n) 0 (finit a) h) : zqs 177 a h k :=
 zqw hc q177 Go.Proofs.Tryz.func177 rfl (by kernel_rfl) (by kernel_rfl) k u177 (fun n => f177 (r177 c k n)) (fun L _ _ hl => match L, hl with
  | 0, hl => zqnS hl fun _ _ hl => hl
  | 1, hl => zqnS hl fun _ _ hl => zqnI hl fun _ hl => zqnI hl fun _ hl => hl
  | _ + 2, hl => hl) (fun n => ⟨
  fun f h hl => by
    refine zqrS 1 hl fun _ _ hl => ?_; exact Eq.mpr (e177_0 ..) hl,
  fun f h hl => by
    refine zqrS 1 hl fun _ _ hl => ?_; refine zqrI 20 hl fun _ hl => ?_; refine zqrI 21 hl fun _ hl => ?_; exact Eq.mpr (e177_1 ..) hl,
  trivial⟩) rfl hg

theorem e179_0 (J : J179) (n_0 : Int) : zqe c k q179 u179 (f179 J) d179 Go.Proofs.Tryz.f179 .root (fset f 0 (.int .u8 n_0)) h = s179_0 c k J n_0 h := by kernel_rfl
theorem w179 (hc : zqco c) {n : Nat} {a : List AV} (hg : f179 (r179 c k n) 0 (finit a) h) : zqs 179 a h k :=
 zqw hc q179 Go.Proofs.Tryz.func179 rfl (by kernel_rfl) (by kernel_rfl) k u179 (fun n => f179 (r179 c k n)) (fun L _ _ hl => match L, hl with
  | 0, hl => zqnI hl fun _ hl => hl
  | _ + 1, hl => hl) (fun n => ⟨
  fun f h hl => by
    refine zqrI 0 hl fun _ hl => ?_; exact Eq.mpr (e179_0 ..) hl,
  trivial⟩) rfl hg

theorem e183_0 (J : J183) : zqe c k q183 u183 (f183 J) d183 Go.Proofs.Tryz.f183 .root f h = s183_0 c k J (f 0) h := by kernel_rfl
theorem e183_1 (J : J183) (n_9 : Int) (n_10 : Int) : zqe c k q183 u183 (f183 J) d183 Go.Proofs.Tryz.f183 (.l (.r (.l (.r (.r .root))))) (fset (fset f 9 (.int .i64 n_9)) 10 (.int .i64 n_10)) h = s183_1 c k J (f 0) (f 8) n_9 n_10 h := by kernel_rfl
theorem w183 (hc : zqco c) {n : Nat} {a : List AV} (hg : f183 (r183 c k n) 0 (finit a) h) : zqs 183 a h k :=
 zqw hc q183 Go.Proofs.Tryz.func183 rfl (by kernel_rfl) (by kernel_rfl) k u183 (fun n => f183 (r183 c k n)) (fun L _ _ hl => match L, hl with
  | 0, hl => hl
  | 1, hl => zqnI hl fun _ hl => zqnI hl fun _ hl => hl
  | _ + 2, hl => hl) (fun n => ⟨
  fun f h hl => Eq.mpr (e183_0 ..) hl,
  fun f h hl => by
    refine zqrI 9 hl fun _ hl => ?_; refine zqrI 10 hl fun _ hl => ?_; exact Eq.mpr (e183_1 ..) hl,
  trivial⟩) rfl hg

theorem w184 (hc : zqco c) {m : Nat} {a : List AV} (hg : runJ env c q184 u184 d184 (retA env Go.Proofs.Tryz.f184.results.toList k) m 0 (finit a) h) : zqs 184 a h k := fnI_ok mixed envOk hc q184 Go.Proofs.Tryz.func184 rfl (by kernel_rfl) (by kernel_rfl) (by kernel_rfl) (by simp [u184]) hg
theorem w189 (hc : zqco c) {m : Nat} {a : List AV} (hg : runJ env c q189 u189 d189 (retA env Go.Proofs.Tryz.f189.results.toList k) m 0 (finit a) h) : zqs 189 a h k := fnI_ok mixed envOk hc q189 Go.Proofs.Tryz.func189 rfl (by kernel_rfl) (by kernel_rfl) (by kernel_rfl) (by simp [u189]) hg
theorem w193 (hc : zqco c) {m : Nat} {a : List AV} (hg : runJ env c q193 u193 d193 (retA env Go.Proofs.Tryz.f193.results.toList k) m 0 (finit a) h) : zqs 193 a h k := fnI_ok mixed envOk hc q193 Go.Proofs.Tryz.func193 rfl (by kernel_rfl) (by kernel_rfl) (by kernel_rfl) (by simp [u193]) hg
theorem w197 (hc : zqco c) {m : Nat} {a : List AV} (hg : runJ env c q197 u197 d197 (retA env Go.Proofs.Tryz.f197.results.toList k) m 0 (finit a) h) : zqs 197 a h k := fnI_ok mixed envOk hc q197 Go.Proofs.Tryz.func197 rfl (by kernel_rfl) (by kernel_rfl) (by kernel_rfl) (by simp [u197]) hg
theorem e199_0 (J : J199) (l_0 : Nat) (c_0 : Nat) (l_1 : Nat) (c_1 : Nat) : zqe c k q199 u199 (f199 J) d199 Go.Proofs.Tryz.f199 .root (fset (fset f 0 (.str l_0 c_0)) 1 (.str l_1 c_1)) h = s199_0 c k J l_0 c_0 l_1 c_1 h := by kernel_rfl
theorem w199 (hc : zqco c) {n : Nat} {a : List AV} (hg : f199 (r199 c k n) 0 (finit a) h) : zqs 199 a h k :=
 zqw hc q199 Go.Proofs.Tryz.func199 rfl (by kernel_rfl) (by kernel_rfl) k u199 (fun n => f199 (r199 c k n)) (fun L _ _ hl => match L, hl with
  | 0, hl => zqnS hl fun _ _ hl => zqnS hl fun _ _ hl => hl
  | _ + 1, hl => hl) (fun n => ⟨
  fun f h hl => by
    refine zqrS 0 hl fun _ _ hl => ?_; refine zqrS 1 hl fun _ _ hl => ?_; exact Eq.mpr (e199_0 ..) hl,
  trivial⟩) rfl hg

theorem e205_0 (J : J205) : zqe c k q205 u205 (f205 J) d205 Go.Proofs.Tryz.f205 .root f h = s205_0 c k J (f 0) h := by kernel_rfl
theorem w205 (hc : zqco c) {n : Nat} {a : List AV} (hg : f205 (r205 c k n) 0 (finit a) h) : zqs 205 a h k :=
 zqw hc q205 Go.Proofs.Tryz.func205 rfl (by kernel_rfl) (by kernel_rfl) k u205 (fun n => f205 (r205 c k n)) (fun L _ _ hl => match L, hl with
  | 0, hl => hl
  | _ + 1, hl => hl) (fun n => ⟨
  fun f h hl => Eq.mpr (e205_0 ..) hl,
  trivial⟩) rfl hg

theorem w207 (hc : zqco c) {m : Nat} {a : List AV} (hg : runJ env c q207 u207 d207 (retA env Go.Proofs.Tryz.f207.results.toList k) m 0 (finit a) h) : zqs 207 a h k := fnI_ok mixed envOk hc q207 Go.Proofs.Tryz.func207 rfl (by kernel_rfl) (by kernel_rfl) (by kernel_rfl) (by simp [u207]) hg
theorem e212_0 (J : J212) (l_1 : Nat) (c_1 : Nat) (l_2 : Nat) (c_2 : Nat) (b_3 : Bool) : zqe c k q212 u212 (f212 J) d212 Go.Proofs.Tryz.f212 .root (fset (fset (fset f 1 (.str l_1 c_1)) 2 (.str l_2 c_2)) 3 (.bool b_3)) h = s212_0 c k J (f 0) l_1 c_1 l_2 c_2 b_3 h := by kernel_rfl
theorem e212_1 (J : J212) (l_2 : Nat) (c_2 : Nat) (n_31 : Int) (n_32 : Int) : zqe c k q212 u212 (f212 J) d212 Go.Proofs.Tryz.f212 (.l (.r (.l (.r (.r (.r (.r .root))))))) (fset (fset (fset f 2 (.str l_2 c_2)) 31 (.int .i64 n_31)) 32 (.int .i64 n_32)) h = s212_1 c k J (f 0) l_2 c_2 (f 30) n_31 n_32 h := by kernel_rfl
theorem e212_2 (J : J212) (l_2 : Nat) (c_2 : Nat) : zqe c k q212 u212 (f212 J) d212 Go.Proofs.Tryz.f212 (.r (.r (.r (.r .root)))) (fset f 2 (.str l_2 c_2)) h = s212_2 c k J (f 0) l_2 c_2 (f 10) h := by kernel_rfl
theorem w212 (hc : zqco c) {n : Nat} {a : List AV} (hg : f212 (r212 c k n) 0 (finit a) h) : zqs 212 a h k :=
 zqw hc q212 Go.Proofs.Tryz.func212 rfl (by kernel_rfl) (by kernel_rfl) k u212 (fun n => f212 (r212 c k n)) (fun L _ _ hl => match L, hl with
  | 0, hl => zqnS hl fun _ _ hl => zqnS hl fun _ _ hl => zqnB hl fun _ hl => hl
  | 1, hl => zqnS hl fun _ _ hl => zqnI hl fun _ hl => zqnI hl fun _ hl => hl
  | 2, hl => zqnS hl fun _ _ hl => hl
  | _ + 3, hl => hl) (fun n => ⟨
  fun f h hl => by
    refine zqrS 1 hl fun _ _ hl => ?_; refine zqrS 2 hl fun _ _ hl => ?_; refine zqrB 3 hl fun _ hl => ?_; exact Eq.mpr (e212_0 ..) hl,
  fun f h hl => by
    refine zqrS 2 hl fun _ _ hl => ?_; refine zqrI 31 hl fun _ hl => ?_; refine zqrI 32 hl fun _ hl => ?_; exact Eq.mpr (e212_1 ..) hl,
  fun f h hl => by
    refine zqrS 2 hl fun _ _ hl => ?_; exact Eq.mpr (e212_2 ..) hl,
  trivial⟩) rfl hg

theorem w213 (hc : zqco c) {m : Nat} {a : List AV} (hg : runJ env c q213 u213 d213 (retA env Go.Proofs.Tryz.f213.results.toList k) m 0 (finit a) h) : zqs 213 a h k := fnI_ok mixed envOk hc q213 Go.Proofs.Tryz.func213 rfl (by kernel_rfl) (by kernel_rfl) (by kernel_rfl) (by simp [u213]) hg
theorem w217 (hc : zqco c) {m : Nat} {a : List AV} (hg : runJ env c q217 u217 d217 (retA env Go.Proofs.Tryz.f217.results.toList k) m 0 (finit a) h) : zqs 217 a h k := fnI_ok mixed envOk hc q217 Go.Proofs.Tryz.func217 rfl (by kernel_rfl) (by kernel_rfl) (by kernel_rfl) (by simp [u217]) hg
theorem e222_0 (J : J222) (n_1 : Int) : zqe c k q222 u222 (f222 J) d222 Go.Proofs.Tryz.f222 .root (fset f 1 (.int .i64 n_1)) h = s222_0 c k J (f 0) n_1 h := by kernel_rfl
theorem e222_1 (J : J222) (n_5 : Int) (n_6 : Int) : zqe c k q222 u222 (f222 J) d222 Go.Proofs.Tryz.f222 (.l (.r (.l (.r (.r .root))))) (fset (fset f 5 (.int .u8 n_5)) 6 (.int .i64 n_6)) h = s222_1 c k J (f 0) n_5 n_6 h := by kernel_rfl
theorem e222_2 (J : J222) (n_5 : Int) (n_6 : Int) : zqe c k q222 u222 (f222 J) d222 Go.Proofs.Tryz.f222 (.r (.r (.l (.l (.r (.l (.r (.r .root)))))))) (fset (fset f 5 (.int .u8 n_5)) 6 (.int .i64 n_6)) h = s222_2 c k J (f 0) n_5 n_6 h := by kernel_rfl
theorem w222 (hc : zqco c) {n : Nat} {a : List AV} (hg : f222 (r222 c k n) 0 (finit a) h) : zqs 222 a h k :=
 zqw hc q222 Go.Proofs.Tryz.func222 rfl (by kernel_rfl) (by kernel_rfl) k u222 (fun n => f222 (r222 c k n)) (fun L _ _ hl => match L, hl with
  | 0, hl => zqnI hl fun _ hl => hl
  | 1, hl => zqnI hl fun _ hl => zqnI hl fun _ hl => hl
  | 2, hl => zqnI hl fun _ hl => zqnI hl fun _ hl => hl
  | _ + 3, hl => hl) (fun n => ⟨
  fun f h hl => by
    refine zqrI 1 hl fun _ hl => ?_; exact Eq.mpr (e222_0 ..) hl,
  fun f h hl => by
    refine zqrI 5 hl fun _ hl => ?_; refine zqrI 6 hl fun _ hl => ?_; exact Eq.mpr (e222_1 ..) hl,
  fun f h hl => by
    refine zqrI 5 hl fun _ hl => ?_; refine zqrI 6 hl fun _ hl => ?_; exact Eq.mpr (e222_2 ..) hl,
  trivial⟩) rfl hg

theorem w225 (hc : zqco c) {m : Nat} {a : List AV} (hg : runJ env c q225 u225 d225 (retA env Go.Proofs.Tryz.f225.results.toList k) m 0 (finit a) h) : zqs 225 a h k := fnI_ok mixed envOk hc q225 Go.Proofs.Tryz.func225 rfl (by kernel_rfl) (by kernel_rfl) (by kernel_rfl) (by simp [u225]) hg
theorem w229 (hc : zqco c) {m : Nat} {a : List AV} (hg : runJ env c q229 u229 d229 (retA env Go.Proofs.Tryz.f229.results.toList k) m 0 (finit a) h) : zqs 229 a h k := fnI_ok mixed envOk hc q229 Go.Proofs.Tryz.func229 rfl (by kernel_rfl) (by kernel_rfl) (by kernel_rfl) (by simp [u229]) hg
theorem w234 (hc : zqco c) {m : Nat} {a : List AV} (hg : runJ env c q234 u234 d234 (retA env Go.Proofs.Tryz.f234.results.toList k) m 0 (finit a) h) : zqs 234 a h k := fnI_ok mixed envOk hc q234 Go.Proofs.Tryz.func234 rfl (by kernel_rfl) (by kernel_rfl) (by kernel_rfl) (by simp [u234]) hg
theorem e237_0 (J : J237) : zqe c k q237 u237 (f237 J) d237 Go.Proofs.Tryz.f237 .root f h = s237_0 c k J (f 0) h := by kernel_rfl
theorem w237 (hc : zqco c) {n : Nat} {a : List AV} (hg : f237 (r237 c k n) 0 (finit a) h) : zqs 237 a h k :=
 zqw hc q237 Go.Proofs.Tryz.func237 rfl (by kernel_rfl) (by kernel_rfl) k u237 (fun n => f237 (r237 c k n)) (fun L _ _ hl => match L, hl with
  | 0, hl => hl
  | _ + 1, hl => hl) (fun n => ⟨
  fun f h hl => Eq.mpr (e237_0 ..) hl,
  trivial⟩) rfl hg
theorem wd237 (hc : zqco c) {n : Nat} {a : List AV} (hg : f237 (r237 c k n) 0 (finit a) h) : zqsd 237 a h k :=
 zqwd hc q237 Go.Proofs.Tryz.func237 rfl (by kernel_rfl) (by kernel_rfl) k u237 (fun n => f237 (r237 c k n)) (fun L _ _ hl => match L, hl with
  | 0, hl => hl
  | _ + 1, hl => hl) (fun n => ⟨
  fun f h hl => Eq.mpr (e237_0 ..) hl,
  trivial⟩) rfl hg

theorem e238_0 (J : J238) (b_1 : Bool) : zqe c k q238 u238 (f238 J) d238 Go.Proofs.Tryz.f238 .root (fset f 1 (.bool b_1)) h = s238_0 c k J (f 0) b_1 h := by kernel_rfl
theorem w238 (hc : zqco c) {n : Nat} {a : List AV} (hg : f238 (r238 c k n) 0 (finit a) h) : zqs 238 a h k :=
 zqw hc q238 Go.Proofs.Tryz.func238 rfl (by kernel_rfl) (by kernel_rfl) k u238 (fun n => f238 (r238 c k n)) (fun L _ _ hl => match L, hl with
  | 0, hl => zqnB hl fun _ hl => hl
  | _ + 1, hl => hl) (fun n => ⟨
  fun f h hl => by
    refine zqrB 1 hl fun _ hl => ?_; exact Eq.mpr (e238_0 ..) hl,
  trivial⟩) rfl hg
theorem wd238 (hc : zqco c) {n : Nat} {a : List AV} (hg : f238 (r238 c k n) 0 (finit a) h) : zqsd 238 a h k :=
 zqwd hc q238 Go.Proofs.Tryz.func238 rfl (by kernel_rfl) (by kernel_rfl) k u238 (fun n => f238 (r238 c k n)) (fun L _ _ hl => match L, hl with
  | 0, hl => zqnB hl fun _ hl => hl
  | _ + 1, hl => hl) (fun n => ⟨
  fun f h hl => by
    refine zqrB 1 hl fun _ hl => ?_; exact Eq.mpr (e238_0 ..) hl,
  trivial⟩) rfl hg

theorem e243_0 (J : J243) (n_1 : Int) : zqe c k q243 u243 (f243 J) d243 Go.Proofs.Tryz.f243 .root (fset f 1 (.int .i64 n_1)) h = s243_0 c k J (f 0) n_1 (f 2) h := by kernel_rfl
theorem e243_1 (J : J243) (n_1 : Int) (n_7 : Int) (n_8 : Int) (b_68 : Bool) : zqe c k q243 u243 (f243 J) d243 Go.Proofs.Tryz.f243 (.r (.l (.r (.r (.r (.r (.r (.r (.r (.r .root)))))))))) (fset (fset (fset (fset f 1 (.int .i64 n_1)) 7 (.int .i64 n_7)) 8 (.int .i64 n_8)) 68 (.bool b_68)) h = s243_1 c k J (f 0) n_1 (f 2) n_7 n_8 b_68 h := by kernel_rfl
theorem w243 (hc : zqco c) {n : Nat} {a : List AV} (hg : f243 (r243 c k n) 0 (finit a) h) : zqs 243 a h k :=
 zqw hc q243 Go.Proofs.Tryz.func243 rfl (by kernel_rfl) (by kernel_rfl) k u243 (fun n => f243 (r243 c k n)) (fun L _ _ hl => match L, hl with
  | 0, hl => zqnI hl fun _ hl => hl
  | 1, hl => zqnI hl fun _ hl => zqnI hl fun _ hl => zqnI hl fun _ hl => zqnB hl fun _ hl => hl
  | _ + 2, hl => hl) (fun n => ⟨
  fun f h hl => by
    refine zqrI 1 hl fun _ hl => ?_; exact Eq.mpr (e243_0 ..) hl,
  fun f h hl => by
    refine zqrI 1 hl fun _ hl => ?_; refine zqrI 7 hl fun _ hl => ?_; refine zqrI 8 hl fun _ hl => ?_; refine zqrB 68 hl fun _ hl => ?_; exact Eq.mpr (e243_1 ..) hl,
  trivial⟩) rfl hg

theorem e244_0 (J : J244) (l_0 : Nat) (c_0 : Nat) : zqe c k q244 u244 (f244 J) d244 Go.Proofs.Tryz.f244 .root (fset f 0 (.str l_0 c_0)) h = s244_0 c k J l_0 c_0 h := by kernel_rfl
theorem w244 (hc : zqco c) {n : Nat} {a : List AV} (hg : f244 (r244 c k n) 0 (finit a) h) : zqs 244 a h k :=
 zqw hc q244 Go.Proofs.Tryz.func244 rfl (by kernel_rfl) (by kernel_rfl) k u244 (fun n => f244 (r244 c k n)) (fun L _ _ hl => match L, hl with
  | 0, hl => zqnS hl fun _ _ hl => hl
  | _ + 1, hl => hl) (fun n => ⟨
  fun f h hl => by
    refine zqrS 0 hl fun _ _ hl => ?_; exact Eq.mpr (e244_0 ..) hl,
  trivial⟩) rfl hg

theorem w246 (hc : zqco c) {m : Nat} {a : List AV} (hg : runJ env c q246 u246 d246 (retA env Go.Proofs.Tryz.f246.results.toList k) m 0 (finit a) h) : zqs 246 a h k := fnI_ok mixed envOk hc q246 Go.Proofs.Tryz.func246 rfl (by kernel_rfl) (by kernel_rfl) (by kernel_rfl) (by simp [u246]) hg
theorem w250 (hc : zqco c) {m : Nat} {a : List AV} (hg : runJ env c q250 u250 d250 (retA env Go.Proofs.Tryz.f250.results.toList k) m 0 (finit a) h) : zqs 250 a h k := fnI_ok mixed envOk hc q250 Go.Proofs.Tryz.func250 rfl (by kernel_rfl) (by kernel_rfl) (by kernel_rfl) (by simp [u250]) hg
theorem w256 (hc : zqco c) {m : Nat} {a : List AV} (hg : runJ env c q256 u256 d256 (retA env Go.Proofs.Tryz.f256.results.toList k) m 0 (finit a) h) : zqs 256 a h k := fnI_ok mixed envOk hc q256 Go.Proofs.Tryz.func256 rfl (by kernel_rfl) (by kernel_rfl) (by kernel_rfl) (by simp [u256]) hg
theorem w261 (hc : zqco c) {m : Nat} {a : List AV} (hg : runJ env c q261 u261 d261 (retA env Go.Proofs.Tryz.f261.results.toList k) m 0 (finit a) h) : zqs 261 a h k := fnI_ok mixed envOk hc q261 Go.Proofs.Tryz.func261 rfl (by kernel_rfl) (by kernel_rfl) (by kernel_rfl) (by simp [u261]) hg
theorem e262_0 (J : J262) : zqe c k q262 u262 (f262 J) d262 Go.Proofs.Tryz.f262 .root f h = s262_0 c k J (f 0) h := by kernel_rfl
theorem w262 (hc : zqco c) {n : Nat} {a : List AV} (hg : f262 (r262 c k n) 0 (finit a) h) : zqs 262 a h k :=
 zqw hc q262 Go.Proofs.Tryz.func262 rfl (by kernel_rfl) (by kernel_rfl) k u262 (fun n => f262 (r262 c k n)) (fun L _ _ hl => match L, hl with
  | 0, hl => hl
  | _ + 1, hl => hl) (fun n => ⟨
  fun f h hl => Eq.mpr (e262_0 ..) hl,
  trivial⟩) rfl hg

theorem e272_0 (J : J272) (l_0 : Nat) (c_0 : Nat) (n_1 : Int) : zqe c k q272 u272 (f272 J) d272 Go.Proofs.Tryz.f272 .root (fset (fset f 0 (.str l_0 c_0)) 1 (.int .u8 n_1)) h = s272_0 c k J l_0 c_0 n_1 h := by kernel_rfl
theorem w272 (hc : zqco c) {n : Nat} {a : List AV} (hg : f272 (r272 c k n) 0 (finit a) h) : zqs 272 a h k :=
 zqw hc q272 Go.Proofs.Tryz.func272 rfl (by kernel_rfl) (by kernel_rfl) k u272 (fun n => f272 (r272 c k n)) (fun L _ _ hl => match L, hl with
  | 0, hl => zqnS hl fun _ _ hl => zqnI hl fun _ hl => hl
  | _ + 1, hl => hl) (fun n => ⟨
  fun f h hl => by
    refine zqrS 0 hl fun _ _ hl => ?_; refine zqrI 1 hl fun _ hl => ?_; exact Eq.mpr (e272_0 ..) hl,
  trivial⟩) rfl hg

theorem w274 (hc : zqco c) {m : Nat} {a : List AV} (hg : runJ env c q274 u274 d274 (retA env Go.Proofs.Tryz.f274.results.toList k) m 0 (finit a) h) : zqs 274 a h k := fnI_ok mixed envOk hc q274 Go.Proofs.Tryz.func274 rfl (by kernel_rfl) (by kernel_rfl) (by kernel_rfl) (by simp [u274]) hg
theorem w279 (hc : zqco c) {m : Nat} {a : List AV} (hg : runJ env c q279 u279 d279 (retA env Go.Proofs.Tryz.f279.results.toList k) m 0 (finit a) h) : zqs 279 a h k := fnI_ok mixed envOk hc q279 Go.Proofs.Tryz.func279 rfl (by kernel_rfl) (by kernel_rfl) (by kernel_rfl) (by simp [u279]) hg
theorem w283 (hc : zqco c) {m : Nat} {a : List AV} (hg : runJ env c q283 u283 d283 (retA env Go.Proofs.Tryz.f283.results.toList k) m 0 (finit a) h) : zqs 283 a h k := fnI_ok mixed envOk hc q283 Go.Proofs.Tryz.func283 rfl (by kernel_rfl) (by kernel_rfl) (by kernel_rfl) (by simp [u283]) hg
theorem w294 (hc : zqco c) {m : Nat} {a : List AV} (hg : runJ env c q294 u294 d294 (retA env Go.Proofs.Tryz.f294.results.toList k) m 0 (finit a) h) : zqs 294 a h k := fnI_ok mixed envOk hc q294 Go.Proofs.Tryz.func294 rfl (by kernel_rfl) (by kernel_rfl) (by kernel_rfl) (by simp [u294]) hg
theorem e298_0 (J : J298) (l_0 : Nat) (c_0 : Nat) (l_1 : Nat) (c_1 : Nat) : zqe c k q298 u298 (f298 J) d298 Go.Proofs.Tryz.f298 .root (fset (fset f 0 (.str l_0 c_0)) 1 (.str l_1 c_1)) h = s298_0 c k J l_0 c_0 l_1 c_1 h := by kernel_rfl
theorem w298 (hc : zqco c) {n : Nat} {a : List AV} (hg : f298 (r298 c k n) 0 (finit a) h) : zqs 298 a h k :=
 zqw hc q298 Go.Proofs.Tryz.func298 rfl (by kernel_rfl) (by kernel_rfl) k u298 (fun n => f298 (r298 c k n)) (fun L _ _ hl => match L, hl with
  | 0, hl => zqnS hl fun _ _ hl => zqnS hl fun _ _ hl => hl
  | _ + 1, hl => hl) (fun n => ⟨
  fun f h hl => by
    refine zqrS 0 hl fun _ _ hl => ?_; refine zqrS 1 hl fun _ _ hl => ?_; exact Eq.mpr (e298_0 ..) hl,
  trivial⟩) rfl hg

theorem w300 (hc : zqco c) {m : Nat} {a : List AV} (hg : runJ env c q300 u300 d300 (retA env Go.Proofs.Tryz.f300.results.toList k) m 0 (finit a) h) : zqs 300 a h k := fnI_ok mixed envOk hc q300 Go.Proofs.Tryz.func300 rfl (by kernel_rfl) (by kernel_rfl) (by kernel_rfl) (by simp [u300]) hg
theorem w306 (hc : zqco c) {m : Nat} {a : List AV} (hg : runJ env c q306 u306 d306 (retA env Go.Proofs.Tryz.f306.results.toList k) m 0 (finit a) h) : zqs 306 a h k := fnI_ok mixed envOk hc q306 Go.Proofs.Tryz.func306 rfl (by kernel_rfl) (by kernel_rfl) (by kernel_rfl) (by simp [u306]) hg
theorem w310 (hc : zqco c) {m : Nat} {a : List AV} (hg : runJ env c q310 u310 d310 (retA env Go.Proofs.Tryz.f310.results.toList k) m 0 (finit a) h) : zqs 310 a h k := fnI_ok mixed envOk hc q310 Go.Proofs.Tryz.func310 rfl (by kernel_rfl) (by kernel_rfl) (by kernel_rfl) (by simp [u310]) hg
theorem w314 (hc : zqco c) {m : Nat} {a : List AV} (hg : runJ env c q314 u314 d314 (retA env Go.Proofs.Tryz.f314.results.toList k) m 0 (finit a) h) : zqs 314 a h k := fnI_ok mixed envOk hc q314 Go.Proofs.Tryz.func314 rfl (by kernel_rfl) (by kernel_rfl) (by kernel_rfl) (by simp [u314]) hg
theorem w327 (hc : zqco c) {m : Nat} {a : List AV} (hg : runJ env c q327 u327 d327 (retA env Go.Proofs.Tryz.f327.results.toList k) m 0 (finit a) h) : zqs 327 a h k := fnI_ok mixed envOk hc q327 Go.Proofs.Tryz.func327 rfl (by kernel_rfl) (by kernel_rfl) (by kernel_rfl) (by simp [u327]) hg
theorem w332 (hc : zqco c) {m : Nat} {a : List AV} (hg : runJ env c q332 u332 d332 (retA env Go.Proofs.Tryz.f332.results.toList k) m 0 (finit a) h) : zqs 332 a h k := fnI_ok mixed envOk hc q332 Go.Proofs.Tryz.func332 rfl (by kernel_rfl) (by kernel_rfl) (by kernel_rfl) (by simp [u332]) hg
theorem w336 (hc : zqco c) {m : Nat} {a : List AV} (hg : runJ env c q336 u336 d336 (retA env Go.Proofs.Tryz.f336.results.toList k) m 0 (finit a) h) : zqs 336 a h k := fnI_ok mixed envOk hc q336 Go.Proofs.Tryz.func336 rfl (by kernel_rfl) (by kernel_rfl) (by kernel_rfl) (by simp [u336]) hg
theorem w340 (hc : zqco c) {m : Nat} {a : List AV} (hg : runJ env c q340 u340 d340 (retA env Go.Proofs.Tryz.f340.results.toList k) m 0 (finit a) h) : zqs 340 a h k := fnI_ok mixed envOk hc q340 Go.Proofs.Tryz.func340 rfl (by kernel_rfl) (by kernel_rfl) (by kernel_rfl) (by simp [u340]) hg
theorem w345 (hc : zqco c) {m : Nat} {a : List AV} (hg : runJ env c q345 u345 d345 (retA env Go.Proofs.Tryz.f345.results.toList k) m 0 (finit a) h) : zqs 345 a h k := fnI_ok mixed envOk hc q345 Go.Proofs.Tryz.func345 rfl (by kernel_rfl) (by kernel_rfl) (by kernel_rfl) (by simp [u345]) hg
theorem w351 (hc : zqco c) {m : Nat} {a : List AV} (hg : runJ env c q351 u351 d351 (retA env Go.Proofs.Tryz.f351.results.toList k) m 0 (finit a) h) : zqs 351 a h k := fnI_ok mixed envOk hc q351 Go.Proofs.Tryz.func351 rfl (by kernel_rfl) (by kernel_rfl) (by kernel_rfl) (by simp [u351]) hg
theorem w355 (hc : zqco c) {m : Nat} {a : List AV} (hg : runJ env c q355 u355 d355 (retA env Go.Proofs.Tryz.f355.results.toList k) m 0 (finit a) h) : zqs 355 a h k := fnI_ok mixed envOk hc q355 Go.Proofs.Tryz.func355 rfl (by kernel_rfl) (by kernel_rfl) (by kernel_rfl) (by simp [u355]) hg
theorem w361 (hc : zqco c) {m : Nat} {a : List AV} (hg : runJ env c q361 u361 d361 (retA env Go.Proofs.Tryz.f361.results.toList k) m 0 (finit a) h) : zqs 361 a h k := fnI_ok mixed envOk hc q361 Go.Proofs.Tryz.func361 rfl (by kernel_rfl) (by kernel_rfl) (by kernel_rfl) (by simp [u361]) hg
theorem w366 (hc : zqco c) {m : Nat} {a : List AV} (hg : runJ env c q366 u366 d366 (retA env Go.Proofs.Tryz.f366.results.toList k) m 0 (finit a) h) : zqs 366 a h k := fnI_ok mixed envOk hc q366 Go.Proofs.Tryz.func366 rfl (by kernel_rfl) (by kernel_rfl) (by kernel_rfl) (by simp [u366]) hg
end Go.Den
