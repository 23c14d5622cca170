/-
  A part of the proof: the pieces are what the program does.
-/
import Derived.Test.YtbjfkibkjjmdnaaGreatDoorRunA1
import Derived.Test.YtbjfkibkjjmdnaaGreatDoorRunA2
import Derived.KernelRfl
namespace Go.Den
set_option maxRecDepth 100000
variable {c : Caller Prop FT} {k : KV} {f : FT} {h : H}
theorem e3_0 (J : J3) (n_0 : Int) (n_1 : Int) : zqe c k q3 u3 (f3 J) d3 Go.Proofs.Tryz.f3 .root (fset (fset f 0 (.int .i64 n_0)) 1 (.int .i64 n_1)) h = s3_0 c k J n_0 n_1 h := by kernel_rfl
theorem e3_1 (J : J3) (n_0 : Int) (n_1 : Int) (l_5 : Nat) (c_5 : Nat) (n_6 : Int) : zqe c k q3 u3 (f3 J) d3 Go.Proofs.Tryz.f3 (.l (.r (.l (.r (.r (.r .root)))))) (fset (fset (fset (fset f 0 (.int .i64 n_0)) 1 (.int .i64 n_1)) 5 (.str l_5 c_5)) 6 (.int .i64 n_6)) h = s3_1 c k J n_0 n_1 l_5 c_5 n_6 h := by kernel_rfl
theorem e3_2 (J : J3) (n_0 : Int) (n_1 : Int) (l_5 : Nat) (c_5 : Nat) (n_7 : Int) : zqe c k q3 u3 (f3 J) d3 Go.Proofs.Tryz.f3 (.l (.r (.l (.r (.r (.r (.r .root))))))) (fset (fset (fset (fset f 0 (.int .i64 n_0)) 1 (.int .i64 n_1)) 5 (.str l_5 c_5)) 7 (.int .i64 n_7)) h = s3_2 c k J n_0 n_1 l_5 c_5 n_7 h := by kernel_rfl
theorem e3_3 (J : J3) (n_0 : Int) (n_16 : Int) : zqe c k q3 u3 (f3 J) d3 Go.Proofs.Tryz.f3 (.l (.r (.l (.r (.r (.r (.r (.r (.r (.r (.r (.r (.r (.r (.r (.r (.r (.r .root)))))))))))))))))) (fset (fset f 0 (.int .i64 n_0)) 16 (.int .i64 n_16)) h = s3_3 c k J n_0 (f 13) (f 14) (f 15) n_16 h := by kernel_rfl
theorem e3_4 (J : J3) (n_0 : Int) : zqe c k q3 u3 (f3 J) d3 Go.Proofs.Tryz.f3 (.r (.r (.r (.r (.r (.r (.r (.r (.r (.r (.r (.r (.r (.r .root)))))))))))))) (fset f 0 (.int .i64 n_0)) h = s3_4 c k J n_0 (f 13) (f 14) (f 15) h := by kernel_rfl
theorem w3 (hc : zqco c) {n : Nat} {a : List AV} (hg : f3 (r3 c k n) 0 (finit a) h) : zqs 3 a h k :=
 zqw hc q3 Go.Proofs.Tryz.func3 rfl (by kernel_rfl) (by kernel_rfl) k u3 (fun n => f3 (r3 c k n)) (fun L _ _ hl => match L, hl with
  | 0, hl => zqnI hl fun _ hl => zqnI hl fun _ hl => hl
  | 1, hl => zqnI hl fun _ hl => zqnI hl fun _ hl => zqnS hl fun _ _ hl => zqnI hl fun _ hl => hl
  | 2, hl => zqnI hl fun _ hl => zqnI hl fun _ hl => zqnS hl fun _ _ hl => zqnI hl fun _ hl => hl
  | 3, hl => zqnI hl fun _ hl => zqnI hl fun _ hl => hl
  | 4, hl => zqnI hl fun _ hl => hl
  | _ + 5, hl => hl) (fun n => ⟨
  fun f h hl => by
    refine zqrI 0 hl fun _ hl => ?_; refine zqrI 1 hl fun _ hl => ?_; exact Eq.mpr (e3_0 ..) hl,
  fun f h hl => by
    refine zqrI 0 hl fun _ hl => ?_; refine zqrI 1 hl fun _ hl => ?_; refine zqrS 5 hl fun _ _ hl => ?_; refine zqrI 6 hl fun _ hl => ?_; exact Eq.mpr (e3_1 ..) hl,
  fun f h hl => by
    refine zqrI 0 hl fun _ hl => ?_; refine zqrI 1 hl fun _ hl => ?_; refine zqrS 5 hl fun _ _ hl => ?_; refine zqrI 7 hl fun _ hl => ?_; exact Eq.mpr (e3_2 ..) hl,
  fun f h hl => by
    refine zqrI 0 hl fun _ hl => ?_; refine zqrI 16 hl fun _ hl => ?_; exact Eq.mpr (e3_3 ..) hl,
  fun f h hl => by
    refine zqrI 0 hl fun _ hl => ?_; exact Eq.mpr (e3_4 ..) hl,
  trivial⟩) rfl hg

theorem e6_0 (J : J6) : zqe c k q6 u6 (f6 J) d6 Go.Proofs.Tryz.f6 .root f h = s6_0 c k J  h := by kernel_rfl
theorem w6 (hc : zqco c) {n : Nat} {a : List AV} (hg : f6 (r6 c k n) 0 (finit a) h) : zqs 6 a h k :=
 zqw hc q6 Go.Proofs.Tryz.func6 rfl (by kernel_rfl) (by kernel_rfl) k u6 (fun n => f6 (r6 c k n)) (fun L _ _ hl => match L, hl with
  | 0, hl => hl
  | _ + 1, hl => hl) (fun n => ⟨
  fun f h hl => Eq.mpr (e6_0 ..) hl,
  trivial⟩) rfl hg

theorem e7_0 (J : J7) (n_0 : Int) : zqe c k q7 u7 (f7 J) d7 Go.Proofs.Tryz.f7 .root (fset f 0 (.int .i64 n_0)) h = s7_0 c k J n_0 h := by kernel_rfl
theorem w7 (hc : zqco c) {n : Nat} {a : List AV} (hg : f7 (r7 c k n) 0 (finit a) h) : zqs 7 a h k :=
 zqw hc q7 Go.Proofs.Tryz.func7 rfl (by kernel_rfl) (by kernel_rfl) k u7 (fun n => f7 (r7 c k n)) (fun L _ _ hl => match L, hl with
  | 0, hl => zqnI hl fun _ hl => hl
  | _ + 1, hl => hl) (fun n => ⟨
  fun f h hl => by
    refine zqrI 0 hl fun _ hl => ?_; exact Eq.mpr (e7_0 ..) hl,
  trivial⟩) rfl hg

theorem e10_0 (J : J10) : zqe c k q10 u10 (f10 J) d10 Go.Proofs.Tryz.f10 .root f h = s10_0 c k J (f 0) h := by kernel_rfl
theorem w10 (hc : zqco c) {n : Nat} {a : List AV} (hg : f10 (r10 c k n) 0 (finit a) h) : zqs 10 a h k :=
 zqw hc q10 Go.Proofs.Tryz.func10 rfl (by kernel_rfl) (by kernel_rfl) k u10 (fun n => f10 (r10 c k n)) (fun L _ _ hl => match L, hl with
  | 0, hl => hl
  | _ + 1, hl => hl) (fun n => ⟨
  fun f h hl => Eq.mpr (e10_0 ..) hl,
  trivial⟩) rfl hg

theorem e11_0 (J : J11) : zqe c k q11 u11 (f11 J) d11 Go.Proofs.Tryz.f11 .root f h = s11_0 c k J (f 0) (f 1) h := by kernel_rfl
theorem e11_1 (J : J11) (n_5 : Int) : zqe c k q11 u11 (f11 J) d11 Go.Proofs.Tryz.f11 (.l (.r (.l (.r (.r .root))))) (fset f 5 (.int .i64 n_5)) h = s11_1 c k J (f 0) (f 1) n_5 h := by kernel_rfl
theorem w11 (hc : zqco c) {n : Nat} {a : List AV} (hg : f11 (r11 c k n) 0 (finit a) h) : zqs 11 a h k :=
 zqw hc q11 Go.Proofs.Tryz.func11 rfl (by kernel_rfl) (by kernel_rfl) k u11 (fun n => f11 (r11 c k n)) (fun L _ _ hl => match L, hl with
  | 0, hl => hl
  | 1, hl => zqnI hl fun _ hl => hl
  | _ + 2, hl => hl) (fun n => ⟨
  fun f h hl => Eq.mpr (e11_0 ..) hl,
  fun f h hl => by
    refine zqrI 5 hl fun _ hl => ?_; exact Eq.mpr (e11_1 ..) hl,
  trivial⟩) rfl hg

theorem e12_0 (J : J12) : zqe c k q12 u12 (f12 J) d12 Go.Proofs.Tryz.f12 .root f h = s12_0 c k J (f 0) (f 1) h := by kernel_rfl
theorem e12_1 (J : J12) (n_10 : Int) (n_11 : Int) : zqe c k q12 u12 (f12 J) d12 Go.Proofs.Tryz.f12 (.l (.r (.l (.r .root)))) (fset (fset f 10 (.int .i64 n_10)) 11 (.int .i64 n_11)) h = s12_1 c k J (f 3) (f 4) (f 9) n_10 n_11 h := by kernel_rfl
theorem w12 (hc : zqco c) {n : Nat} {a : List AV} (hg : f12 (r12 c k n) 0 (finit a) h) : zqs 12 a h k :=
 zqw hc q12 Go.Proofs.Tryz.func12 rfl (by kernel_rfl) (by kernel_rfl) k u12 (fun n => f12 (r12 c k n)) (fun L _ _ hl => match L, hl with
  | 0, hl => hl
  | 1, hl => zqnI hl fun _ hl => zqnI hl fun _ hl => hl
  | _ + 2, hl => hl) (fun n => ⟨
  fun f h hl => Eq.mpr (e12_0 ..) hl,
  fun f h hl => by
    refine zqrI 10 hl fun _ hl => ?_; refine zqrI 11 hl fun _ hl => ?_; exact Eq.mpr (e12_1 ..) hl,
  trivial⟩) rfl hg

theorem e25_0 (J : J25) (l_0 : Nat) (c_0 : Nat) (l_1 : Nat) (c_1 : Nat) : zqe c k q25 u25 (f25 J) d25 Go.Proofs.Tryz.f25 .root (fset (fset f 0 (.str l_0 c_0)) 1 (.str l_1 c_1)) h = s25_0 c k J l_0 c_0 l_1 c_1 h := by kernel_rfl
theorem e25_1 (J : J25) (l_1 : Nat) (c_1 : Nat) (n_15 : Int) (n_16 : Int) : zqe c k q25 u25 (f25 J) d25 Go.Proofs.Tryz.f25 (.l (.r (.l (.r (.r .root))))) (fset (fset (fset f 1 (.str l_1 c_1)) 15 (.int .i64 n_15)) 16 (.int .i64 n_16)) h = s25_1 c k J l_1 c_1 (f 4) n_15 n_16 h := by kernel_rfl
theorem w25 (hc : zqco c) {n : Nat} {a : List AV} (hg : f25 (r25 c k n) 0 (finit a) h) : zqs 25 a h k :=
 zqw hc q25 Go.Proofs.Tryz.func25 rfl (by kernel_rfl) (by kernel_rfl) k u25 (fun n => f25 (r25 c k n)) (fun L _ _ hl => match L, hl with
  | 0, hl => zqnS hl fun _ _ hl => zqnS hl fun _ _ hl => hl
  | 1, hl => zqnS hl fun _ _ hl => zqnI hl fun _ hl => zqnI hl fun _ hl => hl
  | _ + 2, hl => hl) (fun n => ⟨
  fun f h hl => by
    refine zqrS 0 hl fun _ _ hl => ?_; refine zqrS 1 hl fun _ _ hl => ?_; exact Eq.mpr (e25_0 ..) hl,
  fun f h hl => by
    refine zqrS 1 hl fun _ _ hl => ?_; refine zqrI 15 hl fun _ hl => ?_; refine zqrI 16 hl fun _ hl => ?_; exact Eq.mpr (e25_1 ..) hl,
  trivial⟩) rfl hg

theorem e32_0 (J : J32) : zqe c k q32 u32 (f32 J) d32 Go.Proofs.Tryz.f32 .root f h = s32_0 c k J (f 0) (f 1) h := by kernel_rfl
theorem w32 (hc : zqco c) {n : Nat} {a : List AV} (hg : f32 (r32 c k n) 0 (finit a) h) : zqs 32 a h k :=
 zqw hc q32 Go.Proofs.Tryz.func32 rfl (by kernel_rfl) (by kernel_rfl) k u32 (fun n => f32 (r32 c k n)) (fun L _ _ hl => match L, hl with
  | 0, hl => hl
  | _ + 1, hl => hl) (fun n => ⟨
  fun f h hl => Eq.mpr (e32_0 ..) hl,
  trivial⟩) rfl hg

theorem w35 (hc : zqco c) {m : Nat} {a : List AV} (hg : runJ env c q35 u35 d35 (retA env Go.Proofs.Tryz.f35.results.toList k) m 0 (finit a) h) : zqs 35 a h k := fnI_ok mixed envOk hc q35 Go.Proofs.Tryz.func35 rfl (by kernel_rfl) (by kernel_rfl) (by kernel_rfl) (by simp [u35]) hg
theorem e38_0 (J : J38) : zqe c k q38 u38 (f38 J) d38 Go.Proofs.Tryz.f38 .root f h = s38_0 c k J (f 0) h := by kernel_rfl
theorem w38 (hc : zqco c) {n : Nat} {a : List AV} (hg : f38 (r38 c k n) 0 (finit a) h) : zqs 38 a h k :=
 zqw hc q38 Go.Proofs.Tryz.func38 rfl (by kernel_rfl) (by kernel_rfl) k u38 (fun n => f38 (r38 c k n)) (fun L _ _ hl => match L, hl with
  | 0, hl => hl
  | _ + 1, hl => hl) (fun n => ⟨
  fun f h hl => Eq.mpr (e38_0 ..) hl,
  trivial⟩) rfl hg

theorem e41_0 (J : J41) (l_1 : Nat) (c_1 : Nat) : zqe c k q41 u41 (f41 J) d41 Go.Proofs.Tryz.f41 .root (fset f 1 (.str l_1 c_1)) h = s41_0 c k J (f 0) l_1 c_1 h := by kernel_rfl
theorem e41_1 (J : J41) (l_1 : Nat) (c_1 : Nat) (n_6 : Int) : zqe c k q41 u41 (f41 J) d41 Go.Proofs.Tryz.f41 (.l (.l (.r (.r .root)))) (fset (fset f 1 (.str l_1 c_1)) 6 (.int .i64 n_6)) h = s41_1 c k J (f 0) l_1 c_1 n_6 h := by kernel_rfl
theorem w41 (hc : zqco c) {n : Nat} {a : List AV} (hg : f41 (r41 c k n) 0 (finit a) h) : zqs 41 a h k :=
 zqw hc q41 Go.Proofs.Tryz.func41 rfl (by kernel_rfl) (by kernel_rfl) k u41 (fun n => f41 (r41 c k n)) (fun L _ _ hl => match L, hl with
  | 0, hl => zqnS hl fun _ _ hl => hl
  | 1, hl => zqnS hl fun _ _ hl => zqnI hl fun _ hl => hl
  | _ + 2, hl => hl) (fun n => ⟨
  fun f h hl => by
    refine zqrS 1 hl fun _ _ hl => ?_; exact Eq.mpr (e41_0 ..) hl,
  fun f h hl => by
    refine zqrS 1 hl fun _ _ hl => ?_; refine zqrI 6 hl fun _ hl => ?_; exact Eq.mpr (e41_1 ..) hl,
  trivial⟩) rfl hg

theorem e52_0 (J : J52) : zqe c k q52 u52 (f52 J) d52 Go.Proofs.Tryz.f52 .root f h = s52_0 c k J (f 0) h := by kernel_rfl
theorem w52 (hc : zqco c) {n : Nat} {a : List AV} (hg : f52 (r52 c k n) 0 (finit a) h) : zqs 52 a h k :=
 zqw hc q52 Go.Proofs.Tryz.func52 rfl (by kernel_rfl) (by kernel_rfl) k u52 (fun n => f52 (r52 c k n)) (fun L _ _ hl => match L, hl with
  | 0, hl => hl
  | _ + 1, hl => hl) (fun n => ⟨
  fun f h hl => Eq.mpr (e52_0 ..) hl,
  trivial⟩) rfl hg

theorem e72_0 (J : J72) : zqe c k q72 u72 (f72 J) d72 Go.Proofs.Tryz.f72 .root f h = s72_0 c k J (f 0) h := by kernel_rfl
theorem w72 (hc : zqco c) {n : Nat} {a : List AV} (hg : f72 (r72 c k n) 0 (finit a) h) : zqs 72 a h k :=
 zqw hc q72 Go.Proofs.Tryz.func72 rfl (by kernel_rfl) (by kernel_rfl) k u72 (fun n => f72 (r72 c k n)) (fun L _ _ hl => match L, hl with
  | 0, hl => hl
  | _ + 1, hl => hl) (fun n => ⟨
  fun f h hl => Eq.mpr (e72_0 ..) hl,
  trivial⟩) rfl hg

theorem e74_0 (J : J74) (l_0 : Nat) (c_0 : Nat) : zqe c k q74 u74 (f74 J) d74 Go.Proofs.Tryz.f74 .root (fset f 0 (.str l_0 c_0)) h = s74_0 c k J l_0 c_0 h := by kernel_rfl
theorem w74 (hc : zqco c) {n : Nat} {a : List AV} (hg : f74 (r74 c k n) 0 (finit a) h) : zqs 74 a h k :=
 zqw hc q74 Go.Proofs.Tryz.func74 rfl (by kernel_rfl) (by kernel_rfl) k u74 (fun n => f74 (r74 c k n)) (fun L _ _ hl => match L, hl with
  | 0, hl => zqnS hl fun _ _ hl => hl
  | _ + 1, hl => hl) (fun n => ⟨
  fun f h hl => by
    refine zqrS 0 hl fun _ _ hl => ?_; exact Eq.mpr (e74_0 ..) hl,
  trivial⟩) rfl hg

theorem e75_0 (J : J75) : zqe c k q75 u75 (f75 J) d75 Go.Proofs.Tryz.f75 .root f h = s75_0 c k J (f 0) h := by kernel_rfl
theorem e75_1 (J : J75) : zqe c k q75 u75 (f75 J) d75 Go.Proofs.Tryz.f75 (.l (.r (.r .root))) f h = s75_1 c k J (f 0) (f 2) h := by kernel_rfl
theorem w75 (hc : zqco c) {n : Nat} {a : List AV} (hg : f75 (r75 c k n) 0 (finit a) h) : zqs 75 a h k :=
 zqw hc q75 Go.Proofs.Tryz.func75 rfl (by kernel_rfl) (by kernel_rfl) k u75 (fun n => f75 (r75 c k n)) (fun L _ _ hl => match L, hl with
  | 0, hl => hl
  | 1, hl => hl
  | _ + 2, hl => hl) (fun n => ⟨
  fun f h hl => Eq.mpr (e75_0 ..) hl,
  fun f h hl => Eq.mpr (e75_1 ..) hl,
  trivial⟩) rfl hg

theorem e80_0 (J : J80) (n_1 : Int) : zqe c k q80 u80 (f80 J) d80 Go.Proofs.Tryz.f80 .root (fset f 1 (.int .u8 n_1)) h = s80_0 c k J (f 0) n_1 h := by kernel_rfl
theorem w80 (hc : zqco c) {n : Nat} {a : List AV} (hg : f80 (r80 c k n) 0 (finit a) h) : zqs 80 a h k :=
 zqw hc q80 Go.Proofs.Tryz.func80 rfl (by kernel_rfl) (by kernel_rfl) k u80 (fun n => f80 (r80 c k n)) (fun L _ _ hl => match L, hl with
  | 0, hl => zqnI hl fun _ hl => hl
  | _ + 1, hl => hl) (fun n => ⟨
  fun f h hl => by
    refine zqrI 1 hl fun _ hl => ?_; exact Eq.mpr (e80_0 ..) hl,
  trivial⟩) rfl hg

theorem e83_0 (J : J83) (l_0 : Nat) (c_0 : Nat) : zqe c k q83 u83 (f83 J) d83 Go.Proofs.Tryz.f83 .root (fset f 0 (.str l_0 c_0)) h = s83_0 c k J l_0 c_0 (f 1) h := by kernel_rfl
theorem w83 (hc : zqco c) {n : Nat} {a : List AV} (hg : f83 (r83 c k n) 0 (finit a) h) : zqs 83 a h k :=
 zqw hc q83 Go.Proofs.Tryz.func83 rfl (by kernel_rfl) (by kernel_rfl) k u83 (fun n => f83 (r83 c k n)) (fun L _ _ hl => match L, hl with
  | 0, hl => zqnS hl fun _ _ hl => hl
  | _ + 1, hl => hl) (fun n => ⟨
  fun f h hl => by
    refine zqrS 0 hl fun _ _ hl => ?_; exact Eq.mpr (e83_0 ..) hl,
  trivial⟩) rfl hg

theorem w89 (hc : zqco c) {m : Nat} {a : List AV} (hg : runJ env c q89 u89 d89 (retA env Go.Proofs.Tryz.f89.results.toList k) m 0 (finit a) h) : zqs 89 a h k := fnI_ok mixed envOk hc q89 Go.Proofs.Tryz.func89 rfl (by kernel_rfl) (by kernel_rfl) (by kernel_rfl) (by simp [u89]) hg
theorem e99_0 (J : J99) : zqe c k q99 u99 (f99 J) d99 Go.Proofs.Tryz.f99 .root f h = s99_0 c k J (f 0) h := by kernel_rfl
theorem e99_1 (J : J99) (b_3 : Bool) (n_7 : Int) (n_8 : Int) (n_87 : Int) (n_88 : Int) : zqe c k q99 u99 (f99 J) d99 Go.Proofs.Tryz.f99 (.l (.r (.l (.r (.r (.r (.r (.r (.r (.r (.r (.l (.r .root))))))))))))) (fset (fset (fset (fset (fset f 3 (.bool b_3)) 7 (.int .i64 n_7)) 8 (.int .i64 n_8)) 87 (.int .i64 n_87)) 88 (.int .i64 n_88)) h = s99_1 c k J (f 0) (f 2) b_3 (f 5) n_7 n_8 (f 86) n_87 n_88 h := by kernel_rfl
theorem e99_2 (J : J99) (b_3 : Bool) (b_4 : Bool) : zqe c k q99 u99 (f99 J) d99 Go.Proofs.Tryz.f99 (.lab (.r .root) 1) (fset (fset f 3 (.bool b_3)) 4 (.bool b_4)) h = s99_2 c k J (f 0) (f 2) b_3 b_4 (f 5) h := by kernel_rfl
theorem e99_3 (J : J99) (b_3 : Bool) (n_7 : Int) (n_8 : Int) (n_87 : Int) (n_88 : Int) : zqe c k q99 u99 (f99 J) d99 Go.Proofs.Tryz.f99 (.l (.r (.l (.r (.r (.r (.r (.r (.lab (.r .root) 1))))))))) (fset (fset (fset (fset (fset f 3 (.bool b_3)) 7 (.int .i64 n_7)) 8 (.int .i64 n_8)) 87 (.int .i64 n_87)) 88 (.int .i64 n_88)) h = s99_3 c k J (f 0) (f 2) b_3 (f 5) n_7 n_8 (f 86) n_87 n_88 h := by kernel_rfl
theorem e99_4 (J : J99) (b_3 : Bool) (b_4 : Bool) : zqe c k q99 u99 (f99 J) d99 Go.Proofs.Tryz.f99 (.lab (.r .root) 0) (fset (fset f 3 (.bool b_3)) 4 (.bool b_4)) h = s99_4 c k J (f 2) b_3 b_4 h := by kernel_rfl
theorem e99_5 (J : J99) (b_3 : Bool) (b_4 : Bool) (b_6 : Bool) : zqe c k q99 u99 (f99 J) d99 Go.Proofs.Tryz.f99 (.r (.l (.r (.r (.r (.r (.r (.r (.l (.r .root)))))))))) (fset (fset (fset f 3 (.bool b_3)) 4 (.bool b_4)) 6 (.bool b_6)) h = s99_5 c k J (f 0) (f 2) b_3 b_4 (f 5) b_6 h := by kernel_rfl
theorem w99 (hc : zqco c) {n : Nat} {a : List AV} (hg : f99 (r99 c k n) 0 (finit a) h) : zqs 99 a h k :=
 zqw hc q99 Go.Proofs.Tryz.func99 rfl (by kernel_rfl) (by kernel_rfl) k u99 (fun n => f99 (r99 c k n)) (fun L _ _ hl => match L, hl with
  | 0, hl => hl
  | 1, hl => zqnB hl fun _ hl => zqnI hl fun _ hl => zqnI hl fun _ hl => zqnI hl fun _ hl => zqnI hl fun _ hl => hl
  | 2, hl => zqnB hl fun _ hl => zqnB hl fun _ hl => hl
  | 3, hl => zqnB hl fun _ hl => zqnI hl fun _ hl => zqnI hl fun _ hl => zqnI hl fun _ hl => zqnI hl fun _ hl => hl
  | 4, hl => zqnB hl fun _ hl => zqnB hl fun _ hl => hl
  | 5, hl => zqnB hl fun _ hl => zqnB hl fun _ hl => zqnB hl fun _ hl => hl
  | _ + 6, hl => hl) (fun n => ⟨
  fun f h hl => Eq.mpr (e99_0 ..) hl,
  fun f h hl => by
    refine zqrB 3 hl fun _ hl => ?_; refine zqrI 7 hl fun _ hl => ?_; refine zqrI 8 hl fun _ hl => ?_; refine zqrI 87 hl fun _ hl => ?_; refine zqrI 88 hl fun _ hl => ?_; exact Eq.mpr (e99_1 ..) hl,
  fun f h hl => by
    refine zqrB 3 hl fun _ hl => ?_; refine zqrB 4 hl fun _ hl => ?_; exact Eq.mpr (e99_2 ..) hl,
  fun f h hl => by
    refine zqrB 3 hl fun _ hl => ?_; refine zqrI 7 hl fun _ hl => ?_; refine zqrI 8 hl fun _ hl => ?_; refine zqrI 87 hl fun _ hl => ?_; refine zqrI 88 hl fun _ hl => ?_; exact Eq.mpr (e99_3 ..) hl,
  fun f h hl => by
    refine zqrB 3 hl fun _ hl => ?_; refine zqrB 4 hl fun _ hl => ?_; exact Eq.mpr (e99_4 ..) hl,
  fun f h hl => by
    refine zqrB 3 hl fun _ hl => ?_; refine zqrB 4 hl fun _ hl => ?_; refine zqrB 6 hl fun _ hl => ?_; exact Eq.mpr (e99_5 ..) hl,
  trivial⟩) rfl hg

theorem e104_0 (J : J104) (l_1 : Nat) (c_1 : Nat) : zqe c k q104 u104 (f104 J) d104 Go.Proofs.Tryz.f104 .root (fset f 1 (.str l_1 c_1)) h = s104_0 c k J (f 0) l_1 c_1 h := by kernel_rfl
theorem w104 (hc : zqco c) {n : Nat} {a : List AV} (hg : f104 (r104 c k n) 0 (finit a) h) : zqs 104 a h k :=
 zqw hc q104 Go.Proofs.Tryz.func104 rfl (by kernel_rfl) (by kernel_rfl) k u104 (fun n => f104 (r104 c k n)) (fun L _ _ hl => match L, hl with
  | 0, hl => zqnS hl fun _ _ hl => hl
  | _ + 1, hl => hl) (fun n => ⟨
  fun f h hl => by
    refine zqrS 1 hl fun _ _ hl => ?_; exact Eq.mpr (e104_0 ..) hl,
  trivial⟩) rfl hg

theorem e107_0 (J : J107) : zqe c k q107 u107 (f107 J) d107 Go.Proofs.Tryz.f107 .root f h = s107_0 c k J (f 0) (f 1) h := by kernel_rfl
theorem w107 (hc : zqco c) {n : Nat} {a : List AV} (hg : f107 (r107 c k n) 0 (finit a) h) : zqs 107 a h k :=
 zqw hc q107 Go.Proofs.Tryz.func107 rfl (by kernel_rfl) (by kernel_rfl) k u107 (fun n => f107 (r107 c k n)) (fun L _ _ hl => match L, hl with
  | 0, hl => hl
  | _ + 1, hl => hl) (fun n => ⟨
  fun f h hl => Eq.mpr (e107_0 ..) hl,
  trivial⟩) rfl hg

theorem e109_0 (J : J109) : zqe c k q109 u109 (f109 J) d109 Go.Proofs.Tryz.f109 .root f h = s109_0 c k J (f 0) h := by kernel_rfl
theorem w109 (hc : zqco c) {n : Nat} {a : List AV} (hg : f109 (r109 c k n) 0 (finit a) h) : zqs 109 a h k :=
 zqw hc q109 Go.Proofs.Tryz.func109 rfl (by kernel_rfl) (by kernel_rfl) k u109 (fun n => f109 (r109 c k n)) (fun L _ _ hl => match L, hl with
  | 0, hl => hl
  | _ + 1, hl => hl) (fun n => ⟨
  fun f h hl => Eq.mpr (e109_0 ..) hl,
  trivial⟩) rfl hg

theorem e112_0 (J : J112) (l_0 : Nat) (c_0 : Nat) (l_1 : Nat) (c_1 : Nat) : zqe c k q112 u112 (f112 J) d112 Go.Proofs.Tryz.f112 .root (fset (fset f 0 (.str l_0 c_0)) 1 (.str l_1 c_1)) h = s112_0 c k J l_0 c_0 l_1 c_1 h := by kernel_rfl
theorem w112 (hc : zqco c) {n : Nat} {a : List AV} (hg : f112 (r112 c k n) 0 (finit a) h) : zqs 112 a h k :=
 zqw hc q112 Go.Proofs.Tryz.func112 rfl (by kernel_rfl) (by kernel_rfl) k u112 (fun n => f112 (r112 c k n)) (fun L _ _ hl => match L, hl with
  | 0, hl => zqnS hl fun _ _ hl => zqnS hl fun _ _ hl => hl
  | _ + 1, hl => hl) (fun n => ⟨
  fun f h hl => by
    refine zqrS 0 hl fun _ _ hl => ?_; refine zqrS 1 hl fun _ _ hl => ?_; exact Eq.mpr (e112_0 ..) hl,
  trivial⟩) rfl hg

theorem w122 (hc : zqco c) {m : Nat} {a : List AV} (hg : runJ env c q122 u122 d122 (retA env Go.Proofs.Tryz.f122.results.toList k) m 0 (finit a) h) : zqs 122 a h k := fnI_ok mixed envOk hc q122 Go.Proofs.Tryz.func122 rfl (by kernel_rfl) (by kernel_rfl) (by kernel_rfl) (by simp [u122]) hg
theorem w127 (hc : zqco c) {m : Nat} {a : List AV} (hg : runJ env c q127 u127 d127 (retA env Go.Proofs.Tryz.f127.results.toList k) m 0 (finit a) h) : zqs 127 a h k := fnI_ok mixed envOk hc q127 Go.Proofs.Tryz.func127 rfl (by kernel_rfl) (by kernel_rfl) (by kernel_rfl) (by simp [u127]) hg
theorem w138 (hc : zqco c) {m : Nat} {a : List AV} (hg : runJ env c q138 u138 d138 (retA env Go.Proofs.Tryz.f138.results.toList k) m 0 (finit a) h) : zqs 138 a h k := fnI_ok mixed envOk hc q138 Go.Proofs.Tryz.func138 rfl (by kernel_rfl) (by kernel_rfl) (by kernel_rfl) (by simp [u138]) hg
theorem e140_0 (J : J140) (n_0 : Int) : zqe c k q140 u140 (f140 J) d140 Go.Proofs.Tryz.f140 .root (fset f 0 (.int .i64 n_0)) h = s140_0 c k J n_0 (f 1) h := by kernel_rfl
theorem e140_1 (J : J140) (n_0 : Int) (n_6 : Int) (n_7 : Int) (n_8 : Int) : zqe c k q140 u140 (f140 J) d140 Go.Proofs.Tryz.f140 (.l (.r (.l (.r (.r (.r .root)))))) (fset (fset (fset (fset f 0 (.int .i64 n_0)) 6 (.int .i64 n_6)) 7 (.int .i64 n_7)) 8 (.int .i64 n_8)) h = s140_1 c k J n_0 (f 1) (f 4) n_6 n_7 n_8 h := by kernel_rfl
theorem e140_2 (J : J140) (n_0 : Int) (n_6 : Int) (n_7 : Int) (n_8 : Int) : zqe c k q140 u140 (f140 J) d140 Go.Proofs.Tryz.f140 (.r (.r (.l (.l (.r (.l (.r (.r (.r .root))))))))) (fset (fset (fset (fset f 0 (.int .i64 n_0)) 6 (.int .i64 n_6)) 7 (.int .i64 n_7)) 8 (.int .i64 n_8)) h = s140_2 c k J n_0 (f 1) (f 4) n_6 n_7 n_8 h := by kernel_rfl
theorem w140 (hc : zqco c) {n : Nat} {a : List AV} (hg : f140 (r140 c k n) 0 (finit a) h) : zqs 140 a h k :=
 zqw hc q140 Go.Proofs.Tryz.func140 rfl (by kernel_rfl) (by kernel_rfl) k u140 (fun n => f140 (r140 c k n)) (fun L _ _ hl => match L, hl with
  | 0, hl => zqnI hl fun _ hl => hl
  | 1, hl => zqnI hl fun _ hl => zqnI hl fun _ hl => zqnI hl fun _ hl => zqnI hl fun _ hl => hl
  | 2, hl => zqnI hl fun _ hl => zqnI hl fun _ hl => zqnI hl fun _ hl => zqnI hl fun _ hl => hl
  | _ + 3, hl => hl) (fun n => ⟨
  fun f h hl => by
    refine zqrI 0 hl fun _ hl => ?_; exact Eq.mpr (e140_0 ..) hl,
  fun f h hl => by
    refine zqrI 0 hl fun _ hl => ?_; refine zqrI 6 hl fun _ hl => ?_; refine zqrI 7 hl fun _ hl => ?_; refine zqrI 8 hl fun _ hl => ?_; exact Eq.mpr (e140_1 ..) hl,
  fun f h hl => by
    refine zqrI 0 hl fun _ hl => ?_; refine zqrI 6 hl fun _ hl => ?_; refine zqrI 7 hl fun _ hl => ?_; refine zqrI 8 hl fun _ hl => ?_; exact Eq.mpr (e140_2 ..) hl,
  trivial⟩) rfl hg

theorem w145 (hc : zqco c) {m : Nat} {a : List AV} (hg : runJ env c q145 u145 d145 (retA env Go.Proofs.Tryz.f145.results.toList k) m 0 (finit a) h) : zqs 145 a h k := fnI_ok mixed envOk hc q145 Go.Proofs.Tryz.func145 rfl (by kernel_rfl) (by kernel_rfl) (by kernel_rfl) (by simp [u145]) hg
theorem e147_0 (J : J147) : zqe c k q147 u147 (f147 J) d147 Go.Proofs.Tryz.f147 .root f h = s147_0 c k J (f 0) (f 1) (f 2) (f 3) h := by kernel_rfl
theorem e147_1 (J : J147) (n_35 : Int) (n_36 : Int) : zqe c k q147 u147 (f147 J) d147 Go.Proofs.Tryz.f147 (.l (.r (.l (.r (.r (.r (.r .root))))))) (fset (fset f 35 (.int .i64 n_35)) 36 (.int .i64 n_36)) h = s147_1 c k J (f 0) (f 9) (f 11) (f 34) n_35 n_36 h := by kernel_rfl
theorem w147 (hc : zqco c) {n : Nat} {a : List AV} (hg : f147 (r147 c k n) 0 (finit a) h) : zqs 147 a h k :=
 zqw hc q147 Go.Proofs.Tryz.func147 rfl (by kernel_rfl) (by kernel_rfl) k u147 (fun n => f147 (r147 c k n)) (fun L _ _ hl => match L, hl with
  | 0, hl => hl
  | 1, hl => zqnI hl fun _ hl => zqnI hl fun _ hl => hl
  | _ + 2, hl => hl) (fun n => ⟨
  fun f h hl => Eq.mpr (e147_0 ..) hl,
  fun f h hl => by
    refine zqrI 35 hl fun _ hl => ?_; refine zqrI 36 hl fun _ hl => ?_; exact Eq.mpr (e147_1 ..) hl,
  trivial⟩) rfl hg

theorem e153_0 (J : J153) : zqe c k q153 u153 (f153 J) d153 Go.Proofs.Tryz.f153 .root f h = s153_0 c k J (f 0) h := by kernel_rfl
theorem e153_1 (J : J153) (n_3 : Int) : zqe c k q153 u153 (f153 J) d153 Go.Proofs.Tryz.f153 (.l (.r (.l (.r (.r .root))))) (fset f 3 (.int .i64 n_3)) h = s153_1 c k J (f 0) n_3 h := by kernel_rfl
theorem e153_2 (J : J153) (n_3 : Int) (n_5 : Int) : zqe c k q153 u153 (f153 J) d153 Go.Proofs.Tryz.f153 (.l (.r (.l (.r (.l (.r (.l (.l (.r (.l (.l (.r (.l (.r (.r .root))))))))))))))) (fset (fset f 3 (.int .i64 n_3)) 5 (.int .i64 n_5)) h = s153_2 c k J (f 0) n_3 (f 4) n_5 h := by kernel_rfl
theorem e153_3 (J : J153) (n_3 : Int) (n_5 : Int) : zqe c k q153 u153 (f153 J) d153 Go.Proofs.Tryz.f153 (.r (.r (.l (.l (.r (.l (.r (.l (.r (.l (.l (.r (.l (.l (.r (.l (.r (.r .root)))))))))))))))))) (fset (fset f 3 (.int .i64 n_3)) 5 (.int .i64 n_5)) h = s153_3 c k J (f 0) n_3 (f 4) n_5 h := by kernel_rfl
theorem w153 (hc : zqco c) {n : Nat} {a : List AV} (hg : f153 (r153 c k n) 0 (finit a) h) : zqs 153 a h k :=
 zqw hc q153 Go.Proofs.Tryz.func153 rfl (by kernel_rfl) (by kernel_rfl) k u153 (fun n => f153 (r153 c k n)) (fun L _ _ hl => match L, hl with
  | 0, hl => hl
  | 1, hl => zqnI hl fun _ hl => hl
  | 2, hl => zqnI hl fun _ hl => zqnI hl fun _ hl => hl
  | 3, hl => zqnI hl fun _ hl => zqnI hl fun _ hl => hl
  | _ + 4, hl => hl) (fun n => ⟨
  fun f h hl => Eq.mpr (e153_0 ..) hl,
  fun f h hl => by
    refine zqrI 3 hl fun _ hl => ?_; exact Eq.mpr (e153_1 ..) hl,
  fun f h hl => by
    refine zqrI 3 hl fun _ hl => ?_; refine zqrI 5 hl fun _ hl => ?_; exact Eq.mpr (e153_2 ..) hl,
  fun f h hl => by
    refine zqrI 3 hl fun _ hl => ?_; refine zqrI 5 hl fun _ hl => ?_; exact Eq.mpr (e153_3 ..) hl,
  trivial⟩) rfl hg

theorem w163 (hc : zqco c) {m : Nat} {a : List AV} (hg : runJ env c q163 u163 d163 (retA env Go.Proofs.Tryz.f163.results.toList k) m 0 (finit a) h) : zqs 163 a h k := fnI_ok mixed envOk hc q163 Go.Proofs.Tryz.func163 rfl (by kernel_rfl) (by kernel_rfl) (by kernel_rfl) (by simp [u163]) hg
theorem e165_0 (J : J165) : zqe c k q165 u165 (f165 J) d165 Go.Proofs.Tryz.f165 .root f h = s165_0 c k J (f 0) h := by kernel_rfl
theorem e165_1 (J : J165) (n_15 : Int) (n_16 : Int) : zqe c k q165 u165 (f165 J) d165 Go.Proofs.Tryz.f165 (.l (.r (.l (.r .root)))) (fset (fset f 15 (.int .i64 n_15)) 16 (.int .i64 n_16)) h = s165_1 c k J (f 0) (f 2) (f 3) (f 14) n_15 n_16 h := by kernel_rfl
theorem e165_2 (J : J165) (n_15 : Int) (n_16 : Int) : zqe c k q165 u165 (f165 J) d165 Go.Proofs.Tryz.f165 (.r (.r (.l (.l (.r (.r (.l (.l (.r (.l (.r .root))))))))))) (fset (fset f 15 (.int .i64 n_15)) 16 (.int .i64 n_16)) h = s165_2 c k J (f 0) (f 2) (f 3) (f 5) (f 14) n_15 n_16 h := by kernel_rfl
theorem w165 (hc : zqco c) {n : Nat} {a : List AV} (hg : f165 (r165 c k n) 0 (finit a) h) : zqs 165 a h k :=
 zqw hc q165 Go.Proofs.Tryz.func165 rfl (by kernel_rfl) (by kernel_rfl) k u165 (fun n => f165 (r165 c k n)) (fun L _ _ hl => match L, hl with
  | 0, hl => hl
  | 1, hl => zqnI hl fun _ hl => zqnI hl fun _ hl => hl
  | 2, hl => zqnI hl fun _ hl => zqnI hl fun _ hl => hl
  | _ + 3, hl => hl) (fun n => ⟨
  fun f h hl => Eq.mpr (e165_0 ..) hl,
  fun f h hl => by
    refine zqrI 15 hl fun _ hl => ?_; refine zqrI 16 hl fun _ hl => ?_; exact Eq.mpr (e165_1 ..) hl,
  fun f h hl => by
    refine zqrI 15 hl fun _ hl => ?_; refine zqrI 16 hl fun _ hl => ?_; exact Eq.mpr (e165_2 ..) hl,
  trivial⟩) rfl hg

theorem e168_0 (J : J168) (n_1 : Int) : zqe c k q168 u168 (f168 J) d168 Go.Proofs.Tryz.f168 .root (fset f 1 (.int .i64 n_1)) h = s168_0 c k J (f 0) n_1 h := by kernel_rfl
theorem e168_1 (J : J168) (n_1 : Int) : zqe c k q168 u168 (f168 J) d168 Go.Proofs.Tryz.f168 (.l (.r (.r .root))) (fset f 1 (.int .i64 n_1)) h = s168_1 c k J (f 0) n_1 h := by kernel_rfl
theorem w168 (hc : zqco c) {n : Nat} {a : List AV} (hg : f168 (r168 c k n) 0 (finit a) h) : zqs 168 a h k :=
 zqw hc q168 Go.Proofs.Tryz.func168 rfl (by kernel_rfl) (by kernel_rfl) k u168 (fun n => f168 (r168 c k n)) (fun L _ _ hl => match L, hl with
  | 0, hl => zqnI hl fun _ hl => hl
  | 1, hl => zqnI hl fun _ hl => hl
  | _ + 2, hl => hl) (fun n => ⟨
  fun f h hl => by
    refine zqrI 1 hl fun _ hl => ?_; exact Eq.mpr (e168_0 ..) hl,
  fun f h hl => by
    refine zqrI 1 hl fun _ hl => ?_; exact Eq.mpr (e168_1 ..) hl,
  trivial⟩) rfl hg

theorem w169 (hc : zqco c) {m : Nat} {a : List AV} (hg : runJ env c q169 u169 d169 (retA env Go.Proofs.Tryz.f169.results.toList k) m 0 (finit a) h) : zqs 169 a h k := fnI_ok mixed envOk hc q169 Go.Proofs.Tryz.func169 rfl (by kernel_rfl) (by kernel_rfl) (by kernel_rfl) (by simp [u169]) hg
theorem w174 (hc : zqco c) {m : Nat} {a : List AV} (hg : runJ env c q174 u174 d174 (retA env Go.Proofs.Tryz.f174.results.toList k) m 0 (finit a) h) : zqs 174 a h k := fnI_ok mixed envOk hc q174 Go.Proofs.Tryz.func174 rfl (by kernel_rfl) (by kernel_rfl) (by kernel_rfl) (by simp [u174]) hg
theorem e176_0 (J : J176) (l_0 : Nat) (c_0 : Nat) : zqe c k q176 u176 (f176 J) d176 Go.Proofs.Tryz.f176 .root (fset f 0 (.str l_0 c_0)) h = s176_0 c k J l_0 c_0 h := by kernel_rfl
theorem w176 (hc : zqco c) {n : Nat} {a : List AV} (hg : f176 (r176 c k n) 0 (finit a) h) : zqs 176 a h k :=
 zqw hc q176 Go.Proofs.Tryz.func176 rfl (by kernel_rfl) (by kernel_rfl) k u176 (fun n => f176 (r176 c k n)) (fun L _ _ hl => match L, hl with
  | 0, hl => zqnS hl fun _ _ hl => hl
  | _ + 1, hl => hl) (fun n => ⟨
  fun f h hl => by
    refine zqrS 0 hl fun _ _ hl => ?_; exact Eq.mpr (e176_0 ..) hl,
  trivial⟩) rfl hg

theorem e180_0 (J : J180) (n_1 : Int) : zqe c k q180 u180 (f180 J) d180 Go.Proofs.Tryz.f180 .root (fset f 1 (.int .i64 n_1)) h = s180_0 c k J (f 0) n_1 h := by kernel_rfl
theorem w180 (hc : zqco c) {n : Nat} {a : List AV} (hg : f180 (r180 c k n) 0 (finit a) h) : zqs 180 a h k :=
 zqw hc q180 Go.Proofs.Tryz.func180 rfl (by kernel_rfl) (by kernel_rfl) k u180 (fun n => f180 (r180 c k n)) (fun L _ _ hl => match L, hl with
  | 0, hl => zqnI hl fun _ hl => hl
  | _ + 1, hl => hl) (fun n => ⟨
  fun f h hl => by
    refine zqrI 1 hl fun _ hl => ?_; exact Eq.mpr (e180_0 ..) hl,
  trivial⟩) rfl hg

theorem e181_0 (J : J181) (n_0 : Int) : zqe c k q181 u181 (f181 J) d181 Go.Proofs.Tryz.f181 .root (fset f 0 (.int .u8 n_0)) h = s181_0 c k J n_0 h := by kernel_rfl
theorem w181 (hc : zqco c) {n : Nat} {a : List AV} (hg : f181 (r181 c k n) 0 (finit a) h) : zqs 181 a h k :=
 zqw hc q181 Go.Proofs.Tryz.func181 rfl (by kernel_rfl) (by kernel_rfl) k u181 (fun n => f181 (r181 c k n)) (fun L _ _ hl => match L, hl with
  | 0, hl => zqnI hl fun _ hl => hl
  | _ + 1, hl => hl) (fun n => ⟨
  fun f h hl => by
    refine zqrI 0 hl fun _ hl => ?_; exact Eq.mpr (e181_0 ..) hl,
  trivial⟩) rfl hg

theorem e182_0 (J : J182) : zqe c k q182 u182 (f182 J) d182 Go.Proofs.Tryz.f182 .root f h = s182_0 c k J (f 0) h := by kernel_rfl
theorem e182_1 (J : J182) (n_3 : Int) : zqe c k q182 u182 (f182 J) d182 Go.Proofs.Tryz.f182 (.l (.r (.r (.r (.r (.r .root)))))) (fset f 3 (.int .i64 n_3)) h = s182_1 c k J (f 0) n_3 h := by kernel_rfl
theorem e182_2 (J : J182) (n_3 : Int) : zqe c k q182 u182 (f182 J) d182 Go.Proofs.Tryz.f182 (.r (.l (.l (.r (.r (.r (.r (.r .root)))))))) (fset f 3 (.int .i64 n_3)) h = s182_2 c k J (f 0) n_3 h := by kernel_rfl
theorem e182_3 (J : J182) (n_3 : Int) : zqe c k q182 u182 (f182 J) d182 Go.Proofs.Tryz.f182 (.r (.r (.r .root))) (fset f 3 (.int .i64 n_3)) h = s182_3 c k J (f 0) n_3 h := by kernel_rfl
theorem w182 (hc : zqco c) {n : Nat} {a : List AV} (hg : f182 (r182 c k n) 0 (finit a) h) : zqs 182 a h k :=
 zqw hc q182 Go.Proofs.Tryz.func182 rfl (by kernel_rfl) (by kernel_rfl) k u182 (fun n => f182 (r182 c k n)) (fun L _ _ hl => match L, hl with
  | 0, hl => hl
  | 1, hl => zqnI hl fun _ hl => hl
  | 2, hl => zqnI hl fun _ hl => hl
  | 3, hl => zqnI hl fun _ hl => hl
  | _ + 4, hl => hl) (fun n => ⟨
  fun f h hl => Eq.mpr (e182_0 ..) hl,
  fun f h hl => by
    refine zqrI 3 hl fun _ hl => ?_; exact Eq.mpr (e182_1 ..) hl,
  fun f h hl => by
    refine zqrI 3 hl fun _ hl => ?_; exact Eq.mpr (e182_2 ..) hl,
  fun f h hl => by
    refine zqrI 3 hl fun _ hl => ?_; exact Eq.mpr (e182_3 ..) hl,
  trivial⟩) rfl hg

theorem e183_0 (J : J183) : zqe c k q183 u183 (f183 J) d183 Go.Proofs.Tryz.f183 .root f h = s183_0 c k J (f 0) h := by kernel_rfl
theorem e183_1 (J : J183) (n_9 : Int) (n_10 : Int) : zqe c k q183 u183 (f183 J) d183 Go.Proofs.Tryz.f183 (.l (.r (.l (.r (.r .root))))) (fset (fset f 9 (.int .i64 n_9)) 10 (.int .i64 n_10)) h = s183_1 c k J (f 0) (f 8) n_9 n_10 h := by kernel_rfl
theorem w183 (hc : zqco c) {n : Nat} {a : List AV} (hg : f183 (r183 c k n) 0 (finit a) h) : zqs 183 a h k :=
 zqw hc q183 Go.Proofs.Tryz.func183 rfl (by kernel_rfl) (by kernel_rfl) k u183 (fun n => f183 (r183 c k n)) (fun L _ _ hl => match L, hl with
  | 0, hl => hl
  | 1, hl => zqnI hl fun _ hl => zqnI hl fun _ hl => hl
  | _ + 2, hl => hl) (fun n => ⟨
  fun f h hl => Eq.mpr (e183_0 ..) hl,
  fun f h hl => by
    refine zqrI 9 hl fun _ hl => ?_; refine zqrI 10 hl fun _ hl => ?_; exact Eq.mpr (e183_1 ..) hl,
  trivial⟩) rfl hg

theorem w188 (hc : zqco c) {m : Nat} {a : List AV} (hg : runJ env c q188 u188 d188 (retA env Go.Proofs.Tryz.f188.results.toList k) m 0 (finit a) h) : zqs 188 a h k := fnI_ok mixed envOk hc q188 Go.Proofs.Tryz.func188 rfl (by kernel_rfl) (by kernel_rfl) (by kernel_rfl) (by simp [u188]) hg
theorem e191_0 (J : J191) : zqe c k q191 u191 (f191 J) d191 Go.Proofs.Tryz.f191 .root f h = s191_0 c k J (f 0) h := by kernel_rfl
theorem e191_1 (J : J191) (n_2 : Int) (n_3 : Int) : zqe c k q191 u191 (f191 J) d191 Go.Proofs.Tryz.f191 (.l (.r .root)) (fset (fset f 2 (.int .i64 n_2)) 3 (.int .i64 n_3)) h = s191_1 c k J (f 0) n_2 n_3 h := by kernel_rfl
theorem w191 (hc : zqco c) {n : Nat} {a : List AV} (hg : f191 (r191 c k n) 0 (finit a) h) : zqs 191 a h k :=
 zqw hc q191 Go.Proofs.Tryz.func191 rfl (by kernel_rfl) (by kernel_rfl) k u191 (fun n => f191 (r191 c k n)) (fun L _ _ hl => match L, hl with
  | 0, hl => hl
  | 1, hl => zqnI hl fun _ hl => zqnI hl fun _ hl => hl
  | _ + 2, hl => hl) (fun n => ⟨
  fun f h hl => Eq.mpr (e191_0 ..) hl,
  fun f h hl => by
    refine zqrI 2 hl fun _ hl => ?_; refine zqrI 3 hl fun _ hl => ?_; exact Eq.mpr (e191_1 ..) hl,
  trivial⟩) rfl hg

theorem e197_0 (J : J197) : zqe c k q197 u197 (f197 J) d197 Go.Proofs.Tryz.f197 .root f h = s197_0 c k J (f 0) (f 1) h := by kernel_rfl
theorem e197_1 (J : J197) (n_3 : Int) : zqe c k q197 u197 (f197 J) d197 Go.Proofs.Tryz.f197 (.l (.r .root)) (fset f 3 (.int .i64 n_3)) h = s197_1 c k J (f 0) (f 1) n_3 h := by kernel_rfl
theorem w197 (hc : zqco c) {n : Nat} {a : List AV} (hg : f197 (r197 c k n) 0 (finit a) h) : zqs 197 a h k :=
 zqw hc q197 Go.Proofs.Tryz.func197 rfl (by kernel_rfl) (by kernel_rfl) k u197 (fun n => f197 (r197 c k n)) (fun L _ _ hl => match L, hl with
  | 0, hl => hl
  | 1, hl => zqnI hl fun _ hl => hl
  | _ + 2, hl => hl) (fun n => ⟨
  fun f h hl => Eq.mpr (e197_0 ..) hl,
  fun f h hl => by
    refine zqrI 3 hl fun _ hl => ?_; exact Eq.mpr (e197_1 ..) hl,
  trivial⟩) rfl hg

theorem e199_0 (J : J199) (l_0 : Nat) (c_0 : Nat) (l_1 : Nat) (c_1 : Nat) : zqe c k q199 u199 (f199 J) d199 Go.Proofs.Tryz.f199 .root (fset (fset f 0 (.str l_0 c_0)) 1 (.str l_1 c_1)) h = s199_0 c k J l_0 c_0 l_1 c_1 h := by kernel_rfl
theorem w199 (hc : zqco c) {n : Nat} {a : List AV} (hg : f199 (r199 c k n) 0 (finit a) h) : zqs 199 a h k :=
 zqw hc q199 Go.Proofs.Tryz.func199 rfl (by kernel_rfl) (by kernel_rfl) k u199 (fun n => f199 (r199 c k n)) (fun L _ _ hl => match L, hl with
  | 0, hl => zqnS hl fun _ _ hl => zqnS hl fun _ _ hl => hl
  | _ + 1, hl => hl) (fun n => ⟨
  fun f h hl => by
    refine zqrS 0 hl fun _ _ hl => ?_; refine zqrS 1 hl fun _ _ hl => ?_; exact Eq.mpr (e199_0 ..) hl,
  trivial⟩) rfl hg

theorem e200_0 (J : J200) (l_0 : Nat) (c_0 : Nat) (n_1 : Int) : zqe c k q200 u200 (f200 J) d200 Go.Proofs.Tryz.f200 .root (fset (fset f 0 (.str l_0 c_0)) 1 (.int .u8 n_1)) h = s200_0 c k J l_0 c_0 n_1 h := by kernel_rfl
theorem w200 (hc : zqco c) {n : Nat} {a : List AV} (hg : f200 (r200 c k n) 0 (finit a) h) : zqs 200 a h k :=
 zqw hc q200 Go.Proofs.Tryz.func200 rfl (by kernel_rfl) (by kernel_rfl) k u200 (fun n => f200 (r200 c k n)) (fun L _ _ hl => match L, hl with
  | 0, hl => zqnS hl fun _ _ hl => zqnI hl fun _ hl => hl
  | _ + 1, hl => hl) (fun n => ⟨
  fun f h hl => by
    refine zqrS 0 hl fun _ _ hl => ?_; refine zqrI 1 hl fun _ hl => ?_; exact Eq.mpr (e200_0 ..) hl,
  trivial⟩) rfl hg

theorem e205_0 (J : J205) : zqe c k q205 u205 (f205 J) d205 Go.Proofs.Tryz.f205 .root f h = s205_0 c k J (f 0) h := by kernel_rfl
theorem w205 (hc : zqco c) {n : Nat} {a : List AV} (hg : f205 (r205 c k n) 0 (finit a) h) : zqs 205 a h k :=
 zqw hc q205 Go.Proofs.Tryz.func205 rfl (by kernel_rfl) (by kernel_rfl) k u205 (fun n => f205 (r205 c k n)) (fun L _ _ hl => match L, hl with
  | 0, hl => hl
  | _ + 1, hl => hl) (fun n => ⟨
  fun f h hl => Eq.mpr (e205_0 ..) hl,
  trivial⟩) rfl hg

theorem w207 (hc : zqco c) {m : Nat} {a : List AV} (hg : runJ env c q207 u207 d207 (retA env Go.Proofs.Tryz.f207.results.toList k) m 0 (finit a) h) : zqs 207 a h k := fnI_ok mixed envOk hc q207 Go.Proofs.Tryz.func207 rfl (by kernel_rfl) (by kernel_rfl) (by kernel_rfl) (by simp [u207]) hg
theorem w211 (hc : zqco c) {m : Nat} {a : List AV} (hg : runJ env c q211 u211 d211 (retA env Go.Proofs.Tryz.f211.results.toList k) m 0 (finit a) h) : zqs 211 a h k := fnI_ok mixed envOk hc q211 Go.Proofs.Tryz.func211 rfl (by kernel_rfl) (by kernel_rfl) (by kernel_rfl) (by simp [u211]) hg
theorem e219_0 (J : J219) (n_1 : Int) (n_2 : Int) : zqe c k q219 u219 (f219 J) d219 Go.Proofs.Tryz.f219 .root (fset (fset f 1 (.int .i64 n_1)) 2 (.int .i64 n_2)) h = s219_0 c k J (f 0) n_1 n_2 h := by kernel_rfl
theorem w219 (hc : zqco c) {n : Nat} {a : List AV} (hg : f219 (r219 c k n) 0 (finit a) h) : zqs 219 a h k :=
 zqw hc q219 Go.Proofs.Tryz.func219 rfl (by kernel_rfl) (by kernel_rfl) k u219 (fun n => f219 (r219 c k n)) (fun L _ _ hl => match L, hl with
  | 0, hl => zqnI hl fun _ hl => zqnI hl fun _ hl => hl
  | _ + 1, hl => hl) (fun n => ⟨
  fun f h hl => by
    refine zqrI 1 hl fun _ hl => ?_; refine zqrI 2 hl fun _ hl => ?_; exact Eq.mpr (e219_0 ..) hl,
  trivial⟩) rfl hg

theorem w220 (hc : zqco c) {m : Nat} {a : List AV} (hg : runJ env c q220 u220 d220 (retA env Go.Proofs.Tryz.f220.results.toList k) m 0 (finit a) h) : zqs 220 a h k := fnI_ok mixed envOk hc q220 Go.Proofs.Tryz.func220 rfl (by kernel_rfl) (by kernel_rfl) (by kernel_rfl) (by simp [u220]) hg
theorem w225 (hc : zqco c) {m : Nat} {a : List AV} (hg : runJ env c q225 u225 d225 (retA env Go.Proofs.Tryz.f225.results.toList k) m 0 (finit a) h) : zqs 225 a h k := fnI_ok mixed envOk hc q225 Go.Proofs.Tryz.func225 rfl (by kernel_rfl) (by kernel_rfl) (by kernel_rfl) (by simp [u225]) hg
theorem w234 (hc : zqco c) {m : Nat} {a : List AV} (hg : runJ env c q234 u234 d234 (retA env Go.Proofs.Tryz.f234.results.toList k) m 0 (finit a) h) : zqs 234 a h k := fnI_ok mixed envOk hc q234 Go.Proofs.Tryz.func234 rfl (by kernel_rfl) (by kernel_rfl) (by kernel_rfl) (by simp [u234]) hg
theorem e238_0 (J : J238) (b_1 : Bool) : zqe c k q238 u238 (f238 J) d238 Go.Proofs.Tryz.f238 .root (fset f 1 (.bool b_1)) h = s238_0 c k J (f 0) b_1 h := by kernel_rfl
theorem w238 (hc : zqco c) {n : Nat} {a : List AV} (hg : f238 (r238 c k n) 0 (finit a) h) : zqs 238 a h k :=
 zqw hc q238 Go.Proofs.Tryz.func238 rfl (by kernel_rfl) (by kernel_rfl) k u238 (fun n => f238 (r238 c k n)) (fun L _ _ hl => match L, hl with
  | 0, hl => zqnB hl fun _ hl => hl
  | _ + 1, hl => hl) (fun n => ⟨
  fun f h hl => by
    refine zqrB 1 hl fun _ hl => ?_; exact Eq.mpr (e238_0 ..) hl,
  trivial⟩) rfl hg
theorem wd238 (hc : zqco c) {n : Nat} {a : List AV} (hg : f238 (r238 c k n) 0 (finit a) h) : zqsd 238 a h k :=
 zqwd hc q238 Go.Proofs.Tryz.func238 rfl (by kernel_rfl) (by kernel_rfl) k u238 (fun n => f238 (r238 c k n)) (fun L _ _ hl => match L, hl with
  | 0, hl => zqnB hl fun _ hl => hl
  | _ + 1, hl => hl) (fun n => ⟨
  fun f h hl => by
    refine zqrB 1 hl fun _ hl => ?_; exact Eq.mpr (e238_0 ..) hl,
  trivial⟩) rfl hg

theorem w242 (hc : zqco c) {m : Nat} {a : List AV} (hg : runJ env c q242 u242 d242 (retA env Go.Proofs.Tryz.f242.results.toList k) m 0 (finit a) h) : zqs 242 a h k := fnI_ok mixed envOk hc q242 Go.Proofs.Tryz.func242 rfl (by kernel_rfl) (by kernel_rfl) (by kernel_rfl) (by simp [u242]) hg
theorem w246 (hc : zqco c) {m : Nat} {a : List AV} (hg : runJ env c q246 u246 d246 (retA env Go.Proofs.Tryz.f246.results.toList k) m 0 (finit a) h) : zqs 246 a h k := fnI_ok mixed envOk hc q246 Go.Proofs.Tryz.func246 rfl (by kernel_rfl) (by kernel_rfl) (by kernel_rfl) (by simp [u246]) hg
theorem e248_0 (J : J248) (n_1 : Int) : zqe c k q248 u248 (f248 J) d248 Go.Proofs.Tryz.f248 .root (fset f 1 (.int .i64 n_1)) h = s248_0 c k J (f 0) n_1 h := by kernel_rfl
theorem w248 (hc : zqco c) {n : Nat} {a : List AV} (hg : f248 (r248 c k n) 0 (finit a) h) : zqs 248 a h k :=
 zqw hc q248 Go.Proofs.Tryz.func248 rfl (by kernel_rfl) (by kernel_rfl) k u248 (fun n => f248 (r248 c k n)) (fun L _ _ hl => match L, hl with
  | 0, hl => zqnI hl fun _ hl => hl
  | _ + 1, hl => hl) (fun n => ⟨
  fun f h hl => by
    refine zqrI 1 hl fun _ hl => ?_; exact Eq.mpr (e248_0 ..) hl,
  trivial⟩) rfl hg

theorem e249_0 (J : J249) : zqe c k q249 u249 (f249 J) d249 Go.Proofs.Tryz.f249 .root f h = s249_0 c k J (f 0) h := by kernel_rfl
theorem w249 (hc : zqco c) {n : Nat} {a : List AV} (hg : f249 (r249 c k n) 0 (finit a) h) : zqs 249 a h k :=
 zqw hc q249 Go.Proofs.Tryz.func249 rfl (by kernel_rfl) (by kernel_rfl) k u249 (fun n => f249 (r249 c k n)) (fun L _ _ hl => match L, hl with
  | 0, hl => hl
  | _ + 1, hl => hl) (fun n => ⟨
  fun f h hl => Eq.mpr (e249_0 ..) hl,
  trivial⟩) rfl hg

theorem w255 (hc : zqco c) {m : Nat} {a : List AV} (hg : runJ env c q255 u255 d255 (retA env Go.Proofs.Tryz.f255.results.toList k) m 0 (finit a) h) : zqs 255 a h k := fnI_ok mixed envOk hc q255 Go.Proofs.Tryz.func255 rfl (by kernel_rfl) (by kernel_rfl) (by kernel_rfl) (by simp [u255]) hg
theorem w261 (hc : zqco c) {m : Nat} {a : List AV} (hg : runJ env c q261 u261 d261 (retA env Go.Proofs.Tryz.f261.results.toList k) m 0 (finit a) h) : zqs 261 a h k := fnI_ok mixed envOk hc q261 Go.Proofs.Tryz.func261 rfl (by kernel_rfl) (by kernel_rfl) (by kernel_rfl) (by simp [u261]) hg
theorem w269 (hc : zqco c) {m : Nat} {a : List AV} (hg : runJ env c q269 u269 d269 (retA env Go.Proofs.Tryz.f269.results.toList k) m 0 (finit a) h) : zqs 269 a h k := fnI_ok mixed envOk hc q269 Go.Proofs.Tryz.func269 rfl (by kernel_rfl) (by kernel_rfl) (by kernel_rfl) (by simp [u269]) hg
theorem w274 (hc : zqco c) {m : Nat} {a : List AV} (hg : runJ env c q274 u274 d274 (retA env Go.Proofs.Tryz.f274.results.toList k) m 0 (finit a) h) : zqs 274 a h k := fnI_ok mixed envOk hc q274 Go.Proofs.Tryz.func274 rfl (by kernel_rfl) (by kernel_rfl) (by kernel_rfl) (by simp [u274]) hg
theorem w279 (hc : zqco c) {m : Nat} {a : List AV} (hg : runJ env c q279 u279 d279 (retA env Go.Proofs.Tryz.f279.results.toList k) m 0 (finit a) h) : zqs 279 a h k := fnI_ok mixed envOk hc q279 Go.Proofs.Tryz.func279 rfl (by kernel_rfl) (by kernel_rfl) (by kernel_rfl) (by simp [u279]) hg
theorem w283 (hc : zqco c) {m : Nat} {a : List AV} (hg : runJ env c q283 u283 d283 (retA env Go.Proofs.Tryz.f283.results.toList k) m 0 (finit a) h) : zqs 283 a h k := fnI_ok mixed envOk hc q283 Go.Proofs.Tryz.func283 rfl (by kernel_rfl) (by kernel_rfl) (by kernel_rfl) (by simp [u283]) hg
theorem w294 (hc : zqco c) {m : Nat} {a : List AV} (hg : runJ env c q294 u294 d294 (retA env Go.Proofs.Tryz.f294.results.toList k) m 0 (finit a) h) : zqs 294 a h k := fnI_ok mixed envOk hc q294 Go.Proofs.Tryz.func294 rfl (by kernel_rfl) (by kernel_rfl) (by kernel_rfl) (by simp [u294]) hg
theorem w298 (hc : zqco c) {m : Nat} {a : List AV} (hg : runJ env c q298 u298 d298 (retA env Go.Proofs.Tryz.f298.results.toList k) m 0 (finit a) h) : zqs 298 a h k := fnI_ok mixed envOk hc q298 Go.Proofs.Tryz.func298 rfl (by kernel_rfl) (by kernel_rfl) (by kernel_rfl) (by simp [u298]) hg
theorem w302 (hc : zqco c) {m : Nat} {a : List AV} (hg : runJ env c q302 u302 d302 (retA env Go.Proofs.Tryz.f302.results.toList k) m 0 (finit a) h) : zqs 302 a h k := fnI_ok mixed envOk hc q302 Go.Proofs.Tryz.func302 rfl (by kernel_rfl) (by kernel_rfl) (by kernel_rfl) (by simp [u302]) hg
theorem w306 (hc : zqco c) {m : Nat} {a : List AV} (hg : runJ env c q306 u306 d306 (retA env Go.Proofs.Tryz.f306.results.toList k) m 0 (finit a) h) : zqs 306 a h k := fnI_ok mixed envOk hc q306 Go.Proofs.Tryz.func306 rfl (by kernel_rfl) (by kernel_rfl) (by kernel_rfl) (by simp [u306]) hg
theorem w310 (hc : zqco c) {m : Nat} {a : List AV} (hg : runJ env c q310 u310 d310 (retA env Go.Proofs.Tryz.f310.results.toList k) m 0 (finit a) h) : zqs 310 a h k := fnI_ok mixed envOk hc q310 Go.Proofs.Tryz.func310 rfl (by kernel_rfl) (by kernel_rfl) (by kernel_rfl) (by simp [u310]) hg
theorem w314 (hc : zqco c) {m : Nat} {a : List AV} (hg : runJ env c q314 u314 d314 (retA env Go.Proofs.Tryz.f314.results.toList k) m 0 (finit a) h) : zqs 314 a h k := fnI_ok mixed envOk hc q314 Go.Proofs.Tryz.func314 rfl (by kernel_rfl) (by kernel_rfl) (by kernel_rfl) (by simp [u314]) hg
theorem w327 (hc : zqco c) {m : Nat} {a : List AV} (hg : runJ env c q327 u327 d327 (retA env Go.Proofs.Tryz.f327.results.toList k) m 0 (finit a) h) : zqs 327 a h k := fnI_ok mixed envOk hc q327 Go.Proofs.Tryz.func327 rfl (by kernel_rfl) (by kernel_rfl) (by kernel_rfl) (by simp [u327]) hg
theorem w331 (hc : zqco c) {m : Nat} {a : List AV} (hg : runJ env c q331 u331 d331 (retA env Go.Proofs.Tryz.f331.results.toList k) m 0 (finit a) h) : zqs 331 a h k := fnI_ok mixed envOk hc q331 Go.Proofs.Tryz.func331 rfl (by kernel_rfl) (by kernel_rfl) (by kernel_rfl) (by simp [u331]) hg
theorem w335 (hc : zqco c) {m : Nat} {a : List AV} (hg : runJ env c q335 u335 d335 (retA env Go.Proofs.Tryz.f335.results.toList k) m 0 (finit a) h) : zqs 335 a h k := fnI_ok mixed envOk hc q335 Go.Proofs.Tryz.func335 rfl (by kernel_rfl) (by kernel_rfl) (by kernel_rfl) (by simp [u335]) hg
theorem w339 (hc : zqco c) {m : Nat} {a : List AV} (hg : runJ env c q339 u339 d339 (retA env Go.Proofs.Tryz.f339.results.toList k) m 0 (finit a) h) : zqs 339 a h k := fnI_ok mixed envOk hc q339 Go.Proofs.Tryz.func339 rfl (by kernel_rfl) (by kernel_rfl) (by kernel_rfl) (by simp [u339]) hg
theorem w343 (hc : zqco c) {m : Nat} {a : List AV} (hg : runJ env c q343 u343 d343 (retA env Go.Proofs.Tryz.f343.results.toList k) m 0 (finit a) h) : zqs 343 a h k := fnI_ok mixed envOk hc q343 Go.Proofs.Tryz.func343 rfl (by kernel_rfl) (by kernel_rfl) (by kernel_rfl) (by simp [u343]) hg
theorem w350 (hc : zqco c) {m : Nat} {a : List AV} (hg : runJ env c q350 u350 d350 (retA env Go.Proofs.Tryz.f350.results.toList k) m 0 (finit a) h) : zqs 350 a h k := fnI_ok mixed envOk hc q350 Go.Proofs.Tryz.func350 rfl (by kernel_rfl) (by kernel_rfl) (by kernel_rfl) (by simp [u350]) hg
theorem w354 (hc : zqco c) {m : Nat} {a : List AV} (hg : runJ env c q354 u354 d354 (retA env Go.Proofs.Tryz.f354.results.toList k) m 0 (finit a) h) : zqs 354 a h k := fnI_ok mixed envOk hc q354 Go.Proofs.Tryz.func354 rfl (by kernel_rfl) (by kernel_rfl) (by kernel_rfl) (by simp [u354]) hg
theorem w360 (hc : zqco c) {m : Nat} {a : List AV} (hg : runJ env c q360 u360 d360 (retA env Go.Proofs.Tryz.f360.results.toList k) m 0 (finit a) h) : zqs 360 a h k := fnI_ok mixed envOk hc q360 Go.Proofs.Tryz.func360 rfl (by kernel_rfl) (by kernel_rfl) (by kernel_rfl) (by simp [u360]) hg
theorem w365 (hc : zqco c) {m : Nat} {a : List AV} (hg : runJ env c q365 u365 d365 (retA env Go.Proofs.Tryz.f365.results.toList k) m 0 (finit a) h) : zqs 365 a h k := fnI_ok mixed envOk hc q365 Go.Proofs.Tryz.func365 rfl (by kernel_rfl) (by kernel_rfl) (by kernel_rfl) (by simp [u365]) hg
end Go.Den
