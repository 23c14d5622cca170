/-
  A part of the proof: the pieces are what the program does.
-/
import Derived.Test.YtbjfkibkjjmdnaaGreatDoorRunA1
import Derived.Test.YtbjfkibkjjmdnaaGreatDoorRunA2
import Derived.KernelRfl
namespace Go.Den
set_option maxRecDepth 100000
variable {c : Caller Prop FT} {k : KV} {f : FT} {h : H}
theorem e17_0 (J : J17) : zqe c k q17 u17 (f17 J) d17 Go.Proofs.Tryz.f17 .root f h = s17_0 c k J (f 0) (f 1) h := by kernel_rfl
theorem w17 (hc : zqco c) {n : Nat} {a : List AV} (hg : f17 (r17 c k n) 0 (finit a) h) : zqs 17 a h k :=
 zqw hc q17 Go.Proofs.Tryz.func17 rfl (by kernel_rfl) (by kernel_rfl) k u17 (fun n => f17 (r17 c k n)) (fun L _ _ hl => match L, hl with
  | 0, hl => hl
  | _ + 1, hl => hl) (fun n => ⟨
  fun f h hl => Eq.mpr (e17_0 ..) hl,
  trivial⟩) rfl hg

theorem e19_0 (J : J19) : zqe c k q19 u19 (f19 J) d19 Go.Proofs.Tryz.f19 .root f h = s19_0 c k J (f 0) (f 1) h := by kernel_rfl
theorem e19_1 (J : J19) (n_37 : Int) (n_38 : Int) : zqe c k q19 u19 (f19 J) d19 Go.Proofs.Tryz.f19 (.l (.r (.l (.r (.r (.r .root)))))) (fset (fset f 37 (.int .i64 n_37)) 38 (.int .i64 n_38)) h = s19_1 c k J (f 0) (f 36) n_37 n_38 h := by kernel_rfl
theorem w19 (hc : zqco c) {n : Nat} {a : List AV} (hg : f19 (r19 c k n) 0 (finit a) h) : zqs 19 a h k :=
 zqw hc q19 Go.Proofs.Tryz.func19 rfl (by kernel_rfl) (by kernel_rfl) k u19 (fun n => f19 (r19 c k n)) (fun L _ _ hl => match L, hl with
  | 0, hl => hl
  | 1, hl => zqnI hl fun _ hl => zqnI hl fun _ hl => hl
  | _ + 2, hl => hl) (fun n => ⟨
  fun f h hl => Eq.mpr (e19_0 ..) hl,
  fun f h hl => by
    refine zqrI 37 hl fun _ hl => ?_; refine zqrI 38 hl fun _ hl => ?_; exact Eq.mpr (e19_1 ..) hl,
  trivial⟩) rfl hg

theorem e24_0 (J : J24) (l_1 : Nat) (c_1 : Nat) : zqe c k q24 u24 (f24 J) d24 Go.Proofs.Tryz.f24 .root (fset f 1 (.str l_1 c_1)) h = s24_0 c k J (f 0) l_1 c_1 (f 2) (f 3) h := by kernel_rfl
theorem w24 (hc : zqco c) {n : Nat} {a : List AV} (hg : f24 (r24 c k n) 0 (finit a) h) : zqs 24 a h k :=
 zqw hc q24 Go.Proofs.Tryz.func24 rfl (by kernel_rfl) (by kernel_rfl) k u24 (fun n => f24 (r24 c k n)) (fun L _ _ hl => match L, hl with
  | 0, hl => zqnS hl fun _ _ hl => hl
  | _ + 1, hl => hl) (fun n => ⟨
  fun f h hl => by
    refine zqrS 1 hl fun _ _ hl => ?_; exact Eq.mpr (e24_0 ..) hl,
  trivial⟩) rfl hg

theorem e26_0 (J : J26) : zqe c k q26 u26 (f26 J) d26 Go.Proofs.Tryz.f26 .root f h = s26_0 c k J (f 0) (f 1) (f 2) (f 3) h := by kernel_rfl
theorem e26_1 (J : J26) (n_43 : Int) (n_44 : Int) : zqe c k q26 u26 (f26 J) d26 Go.Proofs.Tryz.f26 (.l (.r (.l (.r (.r (.r .root)))))) (fset (fset f 43 (.int .i64 n_43)) 44 (.int .i64 n_44)) h = s26_1 c k J (f 8) (f 9) (f 42) n_43 n_44 h := by kernel_rfl
theorem w26 (hc : zqco c) {n : Nat} {a : List AV} (hg : f26 (r26 c k n) 0 (finit a) h) : zqs 26 a h k :=
 zqw hc q26 Go.Proofs.Tryz.func26 rfl (by kernel_rfl) (by kernel_rfl) k u26 (fun n => f26 (r26 c k n)) (fun L _ _ hl => match L, hl with
  | 0, hl => hl
  | 1, hl => zqnI hl fun _ hl => zqnI hl fun _ hl => hl
  | _ + 2, hl => hl) (fun n => ⟨
  fun f h hl => Eq.mpr (e26_0 ..) hl,
  fun f h hl => by
    refine zqrI 43 hl fun _ hl => ?_; refine zqrI 44 hl fun _ hl => ?_; exact Eq.mpr (e26_1 ..) hl,
  trivial⟩) rfl hg

theorem e29_0 (J : J29) : zqe c k q29 u29 (f29 J) d29 Go.Proofs.Tryz.f29 .root f h = s29_0 c k J (f 0) h := by kernel_rfl
theorem w29 (hc : zqco c) {n : Nat} {a : List AV} (hg : f29 (r29 c k n) 0 (finit a) h) : zqs 29 a h k :=
 zqw hc q29 Go.Proofs.Tryz.func29 rfl (by kernel_rfl) (by kernel_rfl) k u29 (fun n => f29 (r29 c k n)) (fun L _ _ hl => match L, hl with
  | 0, hl => hl
  | _ + 1, hl => hl) (fun n => ⟨
  fun f h hl => Eq.mpr (e29_0 ..) hl,
  trivial⟩) rfl hg

theorem e40_0 (J : J40) (l_1 : Nat) (c_1 : Nat) (n_3 : Int) : zqe c k q40 u40 (f40 J) d40 Go.Proofs.Tryz.f40 .root (fset (fset f 1 (.str l_1 c_1)) 3 (.int .i64 n_3)) h = s40_0 c k J (f 0) l_1 c_1 (f 2) n_3 h := by kernel_rfl
theorem w40 (hc : zqco c) {n : Nat} {a : List AV} (hg : f40 (r40 c k n) 0 (finit a) h) : zqs 40 a h k :=
 zqw hc q40 Go.Proofs.Tryz.func40 rfl (by kernel_rfl) (by kernel_rfl) k u40 (fun n => f40 (r40 c k n)) (fun L _ _ hl => match L, hl with
  | 0, hl => zqnS hl fun _ _ hl => zqnI hl fun _ hl => hl
  | _ + 1, hl => hl) (fun n => ⟨
  fun f h hl => by
    refine zqrS 1 hl fun _ _ hl => ?_; refine zqrI 3 hl fun _ hl => ?_; exact Eq.mpr (e40_0 ..) hl,
  trivial⟩) rfl hg

theorem e44_0 (J : J44) (l_1 : Nat) (c_1 : Nat) : zqe c k q44 u44 (f44 J) d44 Go.Proofs.Tryz.f44 .root (fset f 1 (.str l_1 c_1)) h = s44_0 c k J (f 0) l_1 c_1 h := by kernel_rfl
theorem w44 (hc : zqco c) {n : Nat} {a : List AV} (hg : f44 (r44 c k n) 0 (finit a) h) : zqs 44 a h k :=
 zqw hc q44 Go.Proofs.Tryz.func44 rfl (by kernel_rfl) (by kernel_rfl) k u44 (fun n => f44 (r44 c k n)) (fun L _ _ hl => match L, hl with
  | 0, hl => zqnS hl fun _ _ hl => hl
  | _ + 1, hl => hl) (fun n => ⟨
  fun f h hl => by
    refine zqrS 1 hl fun _ _ hl => ?_; exact Eq.mpr (e44_0 ..) hl,
  trivial⟩) rfl hg

theorem e45_0 (J : J45) : zqe c k q45 u45 (f45 J) d45 Go.Proofs.Tryz.f45 .root f h = s45_0 c k J  h := by kernel_rfl
theorem w45 (hc : zqco c) {n : Nat} {a : List AV} (hg : f45 (r45 c k n) 0 (finit a) h) : zqs 45 a h k :=
 zqw hc q45 Go.Proofs.Tryz.func45 rfl (by kernel_rfl) (by kernel_rfl) k u45 (fun n => f45 (r45 c k n)) (fun L _ _ hl => match L, hl with
  | 0, hl => hl
  | _ + 1, hl => hl) (fun n => ⟨
  fun f h hl => Eq.mpr (e45_0 ..) hl,
  trivial⟩) rfl hg

theorem e46_0 (J : J46) (n_0 : Int) : zqe c k q46 u46 (f46 J) d46 Go.Proofs.Tryz.f46 .root (fset f 0 (.int .i64 n_0)) h = s46_0 c k J n_0 h := by kernel_rfl
theorem w46 (hc : zqco c) {n : Nat} {a : List AV} (hg : f46 (r46 c k n) 0 (finit a) h) : zqs 46 a h k :=
 zqw hc q46 Go.Proofs.Tryz.func46 rfl (by kernel_rfl) (by kernel_rfl) k u46 (fun n => f46 (r46 c k n)) (fun L _ _ hl => match L, hl with
  | 0, hl => zqnI hl fun _ hl => hl
  | _ + 1, hl => hl) (fun n => ⟨
  fun f h hl => by
    refine zqrI 0 hl fun _ hl => ?_; exact Eq.mpr (e46_0 ..) hl,
  trivial⟩) rfl hg

theorem e51_0 (J : J51) : zqe c k q51 u51 (f51 J) d51 Go.Proofs.Tryz.f51 .root f h = s51_0 c k J (f 0) h := by kernel_rfl
theorem w51 (hc : zqco c) {n : Nat} {a : List AV} (hg : f51 (r51 c k n) 0 (finit a) h) : zqs 51 a h k :=
 zqw hc q51 Go.Proofs.Tryz.func51 rfl (by kernel_rfl) (by kernel_rfl) k u51 (fun n => f51 (r51 c k n)) (fun L _ _ hl => match L, hl with
  | 0, hl => hl
  | _ + 1, hl => hl) (fun n => ⟨
  fun f h hl => Eq.mpr (e51_0 ..) hl,
  trivial⟩) rfl hg

theorem e55_0 (J : J55) (l_0 : Nat) (c_0 : Nat) (n_1 : Int) (n_2 : Int) : zqe c k q55 u55 (f55 J) d55 Go.Proofs.Tryz.f55 .root (fset (fset (fset f 0 (.str l_0 c_0)) 1 (.int .i64 n_1)) 2 (.int .i64 n_2)) h = s55_0 c k J l_0 c_0 n_1 n_2 h := by kernel_rfl
theorem e55_1 (J : J55) (n_1 : Int) (n_2 : Int) (n_12 : Int) (n_13 : Int) : zqe c k q55 u55 (f55 J) d55 Go.Proofs.Tryz.f55 (.l (.r (.l (.r (.r .root))))) (fset (fset (fset (fset f 1 (.int .i64 n_1)) 2 (.int .i64 n_2)) 12 (.int .i64 n_12)) 13 (.int .i64 n_13)) h = s55_1 c k J n_1 n_2 (f 7) (f 11) n_12 n_13 h := by kernel_rfl
theorem w55 (hc : zqco c) {n : Nat} {a : List AV} (hg : f55 (r55 c k n) 0 (finit a) h) : zqs 55 a h k :=
 zqw hc q55 Go.Proofs.Tryz.func55 rfl (by kernel_rfl) (by kernel_rfl) k u55 (fun n => f55 (r55 c k n)) (fun L _ _ hl => match L, hl with
  | 0, hl => zqnS hl fun _ _ hl => zqnI hl fun _ hl => zqnI hl fun _ hl => hl
  | 1, hl => zqnI hl fun _ hl => zqnI hl fun _ hl => zqnI hl fun _ hl => zqnI hl fun _ hl => hl
  | _ + 2, hl => hl) (fun n => ⟨
  fun f h hl => by
    refine zqrS 0 hl fun _ _ hl => ?_; refine zqrI 1 hl fun _ hl => ?_; refine zqrI 2 hl fun _ hl => ?_; exact Eq.mpr (e55_0 ..) hl,
  fun f h hl => by
    refine zqrI 1 hl fun _ hl => ?_; refine zqrI 2 hl fun _ hl => ?_; refine zqrI 12 hl fun _ hl => ?_; refine zqrI 13 hl fun _ hl => ?_; exact Eq.mpr (e55_1 ..) hl,
  trivial⟩) rfl hg

theorem e59_0 (J : J59) (l_0 : Nat) (c_0 : Nat) (l_1 : Nat) (c_1 : Nat) : zqe c k q59 u59 (f59 J) d59 Go.Proofs.Tryz.f59 .root (fset (fset f 0 (.str l_0 c_0)) 1 (.str l_1 c_1)) h = s59_0 c k J l_0 c_0 l_1 c_1 h := by kernel_rfl
theorem w59 (hc : zqco c) {n : Nat} {a : List AV} (hg : f59 (r59 c k n) 0 (finit a) h) : zqs 59 a h k :=
 zqw hc q59 Go.Proofs.Tryz.func59 rfl (by kernel_rfl) (by kernel_rfl) k u59 (fun n => f59 (r59 c k n)) (fun L _ _ hl => match L, hl with
  | 0, hl => zqnS hl fun _ _ hl => zqnS hl fun _ _ hl => hl
  | _ + 1, hl => hl) (fun n => ⟨
  fun f h hl => by
    refine zqrS 0 hl fun _ _ hl => ?_; refine zqrS 1 hl fun _ _ hl => ?_; exact Eq.mpr (e59_0 ..) hl,
  trivial⟩) rfl hg

theorem e60_0 (J : J60) (l_0 : Nat) (c_0 : Nat) : zqe c k q60 u60 (f60 J) d60 Go.Proofs.Tryz.f60 .root (fset f 0 (.str l_0 c_0)) h = s60_0 c k J l_0 c_0 h := by kernel_rfl
theorem e60_1 (J : J60) (l_0 : Nat) (c_0 : Nat) (b_3 : Bool) (n_4 : Int) : zqe c k q60 u60 (f60 J) d60 Go.Proofs.Tryz.f60 (.l (.r (.l (.r (.r .root))))) (fset (fset (fset f 0 (.str l_0 c_0)) 3 (.bool b_3)) 4 (.int .i64 n_4)) h = s60_1 c k J l_0 c_0 b_3 n_4 h := by kernel_rfl
theorem w60 (hc : zqco c) {n : Nat} {a : List AV} (hg : f60 (r60 c k n) 0 (finit a) h) : zqs 60 a h k :=
 zqw hc q60 Go.Proofs.Tryz.func60 rfl (by kernel_rfl) (by kernel_rfl) k u60 (fun n => f60 (r60 c k n)) (fun L _ _ hl => match L, hl with
  | 0, hl => zqnS hl fun _ _ hl => hl
  | 1, hl => zqnS hl fun _ _ hl => zqnB hl fun _ hl => zqnI hl fun _ hl => hl
  | _ + 2, hl => hl) (fun n => ⟨
  fun f h hl => by
    refine zqrS 0 hl fun _ _ hl => ?_; exact Eq.mpr (e60_0 ..) hl,
  fun f h hl => by
    refine zqrS 0 hl fun _ _ hl => ?_; refine zqrB 3 hl fun _ hl => ?_; refine zqrI 4 hl fun _ hl => ?_; exact Eq.mpr (e60_1 ..) hl,
  trivial⟩) rfl hg

theorem e62_0 (J : J62) : zqe c k q62 u62 (f62 J) d62 Go.Proofs.Tryz.f62 .root f h = s62_0 c k J (f 0) h := by kernel_rfl
theorem w62 (hc : zqco c) {n : Nat} {a : List AV} (hg : f62 (r62 c k n) 0 (finit a) h) : zqs 62 a h k :=
 zqw hc q62 Go.Proofs.Tryz.func62 rfl (by kernel_rfl) (by kernel_rfl) k u62 (fun n => f62 (r62 c k n)) (fun L _ _ hl => match L, hl with
  | 0, hl => hl
  | _ + 1, hl => hl) (fun n => ⟨
  fun f h hl => Eq.mpr (e62_0 ..) hl,
  trivial⟩) rfl hg

theorem e63_0 (J : J63) (l_0 : Nat) (c_0 : Nat) : zqe c k q63 u63 (f63 J) d63 Go.Proofs.Tryz.f63 .root (fset f 0 (.str l_0 c_0)) h = s63_0 c k J l_0 c_0 h := by kernel_rfl
theorem w63 (hc : zqco c) {n : Nat} {a : List AV} (hg : f63 (r63 c k n) 0 (finit a) h) : zqs 63 a h k :=
 zqw hc q63 Go.Proofs.Tryz.func63 rfl (by kernel_rfl) (by kernel_rfl) k u63 (fun n => f63 (r63 c k n)) (fun L _ _ hl => match L, hl with
  | 0, hl => zqnS hl fun _ _ hl => hl
  | _ + 1, hl => hl) (fun n => ⟨
  fun f h hl => by
    refine zqrS 0 hl fun _ _ hl => ?_; exact Eq.mpr (e63_0 ..) hl,
  trivial⟩) rfl hg

theorem e68_0 (J : J68) (n_1 : Int) : zqe c k q68 u68 (f68 J) d68 Go.Proofs.Tryz.f68 .root (fset f 1 (.int .i64 n_1)) h = s68_0 c k J (f 0) n_1 h := by kernel_rfl
theorem w68 (hc : zqco c) {n : Nat} {a : List AV} (hg : f68 (r68 c k n) 0 (finit a) h) : zqs 68 a h k :=
 zqw hc q68 Go.Proofs.Tryz.func68 rfl (by kernel_rfl) (by kernel_rfl) k u68 (fun n => f68 (r68 c k n)) (fun L _ _ hl => match L, hl with
  | 0, hl => zqnI hl fun _ hl => hl
  | _ + 1, hl => hl) (fun n => ⟨
  fun f h hl => by
    refine zqrI 1 hl fun _ hl => ?_; exact Eq.mpr (e68_0 ..) hl,
  trivial⟩) rfl hg

theorem e69_0 (J : J69) : zqe c k q69 u69 (f69 J) d69 Go.Proofs.Tryz.f69 .root f h = s69_0 c k J (f 0) (f 1) h := by kernel_rfl
theorem e69_1 (J : J69) (n_5 : Int) : zqe c k q69 u69 (f69 J) d69 Go.Proofs.Tryz.f69 (.l (.r (.r .root))) (fset f 5 (.int .i64 n_5)) h = s69_1 c k J (f 0) (f 1) (f 4) n_5 h := by kernel_rfl
theorem e69_2 (J : J69) (n_5 : Int) (n_8 : Int) : zqe c k q69 u69 (f69 J) d69 Go.Proofs.Tryz.f69 (.l (.l (.r (.r (.r (.r (.l (.r (.l (.l (.r (.r .root)))))))))))) (fset (fset f 5 (.int .i64 n_5)) 8 (.int .i64 n_8)) h = s69_2 c k J (f 0) (f 1) (f 4) n_5 (f 7) n_8 h := by kernel_rfl
theorem e69_3 (J : J69) (n_5 : Int) (n_8 : Int) : zqe c k q69 u69 (f69 J) d69 Go.Proofs.Tryz.f69 (.r (.r (.l (.l (.l (.r (.r (.r (.r (.l (.r (.l (.l (.r (.r .root))))))))))))))) (fset (fset f 5 (.int .i64 n_5)) 8 (.int .i64 n_8)) h = s69_3 c k J (f 0) (f 1) (f 4) n_5 (f 7) n_8 h := by kernel_rfl
theorem w69 (hc : zqco c) {n : Nat} {a : List AV} (hg : f69 (r69 c k n) 0 (finit a) h) : zqs 69 a h k :=
 zqw hc q69 Go.Proofs.Tryz.func69 rfl (by kernel_rfl) (by kernel_rfl) k u69 (fun n => f69 (r69 c k n)) (fun L _ _ hl => match L, hl with
  | 0, hl => hl
  | 1, hl => zqnI hl fun _ hl => hl
  | 2, hl => zqnI hl fun _ hl => zqnI hl fun _ hl => hl
  | 3, hl => zqnI hl fun _ hl => zqnI hl fun _ hl => hl
  | _ + 4, hl => hl) (fun n => ⟨
  fun f h hl => Eq.mpr (e69_0 ..) hl,
  fun f h hl => by
    refine zqrI 5 hl fun _ hl => ?_; exact Eq.mpr (e69_1 ..) hl,
  fun f h hl => by
    refine zqrI 5 hl fun _ hl => ?_; refine zqrI 8 hl fun _ hl => ?_; exact Eq.mpr (e69_2 ..) hl,
  fun f h hl => by
    refine zqrI 5 hl fun _ hl => ?_; refine zqrI 8 hl fun _ hl => ?_; exact Eq.mpr (e69_3 ..) hl,
  trivial⟩) rfl hg

theorem w70 (hc : zqco c) {m : Nat} {a : List AV} (hg : runJ env c q70 u70 d70 (retA env Go.Proofs.Tryz.f70.results.toList k) m 0 (finit a) h) : zqs 70 a h k := fnI_ok mixed envOk hc q70 Go.Proofs.Tryz.func70 rfl (by kernel_rfl) (by kernel_rfl) (by kernel_rfl) (by simp [u70]) hg
theorem e78_0 (J : J78) : zqe c k q78 u78 (f78 J) d78 Go.Proofs.Tryz.f78 .root f h = s78_0 c k J (f 0) (f 1) h := by kernel_rfl
theorem e78_1 (J : J78) : zqe c k q78 u78 (f78 J) d78 Go.Proofs.Tryz.f78 (.r (.r (.r (.r .root)))) f h = s78_1 c k J (f 0) (f 3) h := by kernel_rfl
theorem w78 (hc : zqco c) {n : Nat} {a : List AV} (hg : f78 (r78 c k n) 0 (finit a) h) : zqs 78 a h k :=
 zqw hc q78 Go.Proofs.Tryz.func78 rfl (by kernel_rfl) (by kernel_rfl) k u78 (fun n => f78 (r78 c k n)) (fun L _ _ hl => match L, hl with
  | 0, hl => hl
  | 1, hl => hl
  | _ + 2, hl => hl) (fun n => ⟨
  fun f h hl => Eq.mpr (e78_0 ..) hl,
  fun f h hl => Eq.mpr (e78_1 ..) hl,
  trivial⟩) rfl hg

theorem e79_0 (J : J79) (l_0 : Nat) (c_0 : Nat) : zqe c k q79 u79 (f79 J) d79 Go.Proofs.Tryz.f79 .root (fset f 0 (.str l_0 c_0)) h = s79_0 c k J l_0 c_0 h := by kernel_rfl
theorem e79_1 (J : J79) (l_0 : Nat) (c_0 : Nat) (n_3 : Int) : zqe c k q79 u79 (f79 J) d79 Go.Proofs.Tryz.f79 (.lab (.r .root) 0) (fset (fset f 0 (.str l_0 c_0)) 3 (.int .i64 n_3)) h = s79_1 c k J l_0 c_0 (f 2) n_3 h := by kernel_rfl
theorem w79 (hc : zqco c) {n : Nat} {a : List AV} (hg : f79 (r79 c k n) 0 (finit a) h) : zqs 79 a h k :=
 zqw hc q79 Go.Proofs.Tryz.func79 rfl (by kernel_rfl) (by kernel_rfl) k u79 (fun n => f79 (r79 c k n)) (fun L _ _ hl => match L, hl with
  | 0, hl => zqnS hl fun _ _ hl => hl
  | 1, hl => zqnS hl fun _ _ hl => zqnI hl fun _ hl => hl
  | _ + 2, hl => hl) (fun n => ⟨
  fun f h hl => by
    refine zqrS 0 hl fun _ _ hl => ?_; exact Eq.mpr (e79_0 ..) hl,
  fun f h hl => by
    refine zqrS 0 hl fun _ _ hl => ?_; refine zqrI 3 hl fun _ hl => ?_; exact Eq.mpr (e79_1 ..) hl,
  trivial⟩) rfl hg

theorem e86_0 (J : J86) (l_0 : Nat) (c_0 : Nat) (l_1 : Nat) (c_1 : Nat) (n_2 : Int) : zqe c k q86 u86 (f86 J) d86 Go.Proofs.Tryz.f86 .root (fset (fset (fset f 0 (.str l_0 c_0)) 1 (.str l_1 c_1)) 2 (.int .i64 n_2)) h = s86_0 c k J l_0 c_0 l_1 c_1 n_2 h := by kernel_rfl
theorem w86 (hc : zqco c) {n : Nat} {a : List AV} (hg : f86 (r86 c k n) 0 (finit a) h) : zqs 86 a h k :=
 zqw hc q86 Go.Proofs.Tryz.func86 rfl (by kernel_rfl) (by kernel_rfl) k u86 (fun n => f86 (r86 c k n)) (fun L _ _ hl => match L, hl with
  | 0, hl => zqnS hl fun _ _ hl => zqnS hl fun _ _ hl => zqnI hl fun _ hl => hl
  | _ + 1, hl => hl) (fun n => ⟨
  fun f h hl => by
    refine zqrS 0 hl fun _ _ hl => ?_; refine zqrS 1 hl fun _ _ hl => ?_; refine zqrI 2 hl fun _ hl => ?_; exact Eq.mpr (e86_0 ..) hl,
  trivial⟩) rfl hg

theorem e92_0 (J : J92) : zqe c k q92 u92 (f92 J) d92 Go.Proofs.Tryz.f92 .root f h = s92_0 c k J (f 0) (f 1) h := by kernel_rfl
theorem w92 (hc : zqco c) {n : Nat} {a : List AV} (hg : f92 (r92 c k n) 0 (finit a) h) : zqs 92 a h k :=
 zqw hc q92 Go.Proofs.Tryz.func92 rfl (by kernel_rfl) (by kernel_rfl) k u92 (fun n => f92 (r92 c k n)) (fun L _ _ hl => match L, hl with
  | 0, hl => hl
  | _ + 1, hl => hl) (fun n => ⟨
  fun f h hl => Eq.mpr (e92_0 ..) hl,
  trivial⟩) rfl hg

theorem e95_0 (J : J95) : zqe c k q95 u95 (f95 J) d95 Go.Proofs.Tryz.f95 .root f h = s95_0 c k J (f 0) (f 1) h := by kernel_rfl
theorem e95_1 (J : J95) (n_34 : Int) (n_35 : Int) : zqe c k q95 u95 (f95 J) d95 Go.Proofs.Tryz.f95 (.l (.r (.l (.r (.r (.r .root)))))) (fset (fset f 34 (.int .i64 n_34)) 35 (.int .i64 n_35)) h = s95_1 c k J (f 0) (f 3) (f 33) n_34 n_35 h := by kernel_rfl
theorem w95 (hc : zqco c) {n : Nat} {a : List AV} (hg : f95 (r95 c k n) 0 (finit a) h) : zqs 95 a h k :=
 zqw hc q95 Go.Proofs.Tryz.func95 rfl (by kernel_rfl) (by kernel_rfl) k u95 (fun n => f95 (r95 c k n)) (fun L _ _ hl => match L, hl with
  | 0, hl => hl
  | 1, hl => zqnI hl fun _ hl => zqnI hl fun _ hl => hl
  | _ + 2, hl => hl) (fun n => ⟨
  fun f h hl => Eq.mpr (e95_0 ..) hl,
  fun f h hl => by
    refine zqrI 34 hl fun _ hl => ?_; refine zqrI 35 hl fun _ hl => ?_; exact Eq.mpr (e95_1 ..) hl,
  trivial⟩) rfl hg

theorem w96 (hc : zqco c) {m : Nat} {a : List AV} (hg : runJ env c q96 u96 d96 (retA env Go.Proofs.Tryz.f96.results.toList k) m 0 (finit a) h) : zqs 96 a h k := fnI_ok mixed envOk hc q96 Go.Proofs.Tryz.func96 rfl (by kernel_rfl) (by kernel_rfl) (by kernel_rfl) (by simp [u96]) hg
theorem e100_0 (J : J100) (l_1 : Nat) (c_1 : Nat) : zqe c k q100 u100 (f100 J) d100 Go.Proofs.Tryz.f100 .root (fset f 1 (.str l_1 c_1)) h = s100_0 c k J (f 0) l_1 c_1 h := by kernel_rfl
theorem w100 (hc : zqco c) {n : Nat} {a : List AV} (hg : f100 (r100 c k n) 0 (finit a) h) : zqs 100 a h k :=
 zqw hc q100 Go.Proofs.Tryz.func100 rfl (by kernel_rfl) (by kernel_rfl) k u100 (fun n => f100 (r100 c k n)) (fun L _ _ hl => match L, hl with
  | 0, hl => zqnS hl fun _ _ hl => hl
  | _ + 1, hl => hl) (fun n => ⟨
  fun f h hl => by
    refine zqrS 1 hl fun _ _ hl => ?_; exact Eq.mpr (e100_0 ..) hl,
  trivial⟩) rfl hg

theorem e101_0 (J : J101) : zqe c k q101 u101 (f101 J) d101 Go.Proofs.Tryz.f101 .root f h = s101_0 c k J (f 0) (f 1) h := by kernel_rfl
theorem w101 (hc : zqco c) {n : Nat} {a : List AV} (hg : f101 (r101 c k n) 0 (finit a) h) : zqs 101 a h k :=
 zqw hc q101 Go.Proofs.Tryz.func101 rfl (by kernel_rfl) (by kernel_rfl) k u101 (fun n => f101 (r101 c k n)) (fun L _ _ hl => match L, hl with
  | 0, hl => hl
  | _ + 1, hl => hl) (fun n => ⟨
  fun f h hl => Eq.mpr (e101_0 ..) hl,
  trivial⟩) rfl hg

theorem e103_0 (J : J103) (l_1 : Nat) (c_1 : Nat) : zqe c k q103 u103 (f103 J) d103 Go.Proofs.Tryz.f103 .root (fset f 1 (.str l_1 c_1)) h = s103_0 c k J (f 0) l_1 c_1 h := by kernel_rfl
theorem w103 (hc : zqco c) {n : Nat} {a : List AV} (hg : f103 (r103 c k n) 0 (finit a) h) : zqs 103 a h k :=
 zqw hc q103 Go.Proofs.Tryz.func103 rfl (by kernel_rfl) (by kernel_rfl) k u103 (fun n => f103 (r103 c k n)) (fun L _ _ hl => match L, hl with
  | 0, hl => zqnS hl fun _ _ hl => hl
  | _ + 1, hl => hl) (fun n => ⟨
  fun f h hl => by
    refine zqrS 1 hl fun _ _ hl => ?_; exact Eq.mpr (e103_0 ..) hl,
  trivial⟩) rfl hg

theorem e106_0 (J : J106) : zqe c k q106 u106 (f106 J) d106 Go.Proofs.Tryz.f106 .root f h = s106_0 c k J (f 0) (f 1) (f 2) (f 3) (f 4) (f 5) h := by kernel_rfl
theorem e106_1 (J : J106) : zqe c k q106 u106 (f106 J) d106 Go.Proofs.Tryz.f106 (.r (.r (.r (.r .root)))) f h = s106_1 c k J (f 6) (f 8) (f 9) (f 10) (f 11) (f 12) (f 13) h := by kernel_rfl
theorem w106 (hc : zqco c) {n : Nat} {a : List AV} (hg : f106 (r106 c k n) 0 (finit a) h) : zqs 106 a h k :=
 zqw hc q106 Go.Proofs.Tryz.func106 rfl (by kernel_rfl) (by kernel_rfl) k u106 (fun n => f106 (r106 c k n)) (fun L _ _ hl => match L, hl with
  | 0, hl => hl
  | 1, hl => hl
  | _ + 2, hl => hl) (fun n => ⟨
  fun f h hl => Eq.mpr (e106_0 ..) hl,
  fun f h hl => Eq.mpr (e106_1 ..) hl,
  trivial⟩) rfl hg

theorem w123 (hc : zqco c) {m : Nat} {a : List AV} (hg : runJ env c q123 u123 d123 (retA env Go.Proofs.Tryz.f123.results.toList k) m 0 (finit a) h) : zqs 123 a h k := fnI_ok mixed envOk hc q123 Go.Proofs.Tryz.func123 rfl (by kernel_rfl) (by kernel_rfl) (by kernel_rfl) (by simp [u123]) hg
theorem w128 (hc : zqco c) {m : Nat} {a : List AV} (hg : runJ env c q128 u128 d128 (retA env Go.Proofs.Tryz.f128.results.toList k) m 0 (finit a) h) : zqs 128 a h k := fnI_ok mixed envOk hc q128 Go.Proofs.Tryz.func128 rfl (by kernel_rfl) (by kernel_rfl) (by kernel_rfl) (by simp [u128]) hg
theorem e136_0 (J : J136) (n_1 : Int) : zqe c k q136 u136 (f136 J) d136 Go.Proofs.Tryz.f136 .root (fset f 1 (.int .i64 n_1)) h = s136_0 c k J (f 0) n_1 (f 2) h := by kernel_rfl
theorem e136_1 (J : J136) : zqe c k q136 u136 (f136 J) d136 Go.Proofs.Tryz.f136 (.r (.r .root)) f h = s136_1 c k J (f 0) h := by kernel_rfl
theorem w136 (hc : zqco c) {n : Nat} {a : List AV} (hg : f136 (r136 c k n) 0 (finit a) h) : zqs 136 a h k :=
 zqw hc q136 Go.Proofs.Tryz.func136 rfl (by kernel_rfl) (by kernel_rfl) k u136 (fun n => f136 (r136 c k n)) (fun L _ _ hl => match L, hl with
  | 0, hl => zqnI hl fun _ hl => hl
  | 1, hl => hl
  | _ + 2, hl => hl) (fun n => ⟨
  fun f h hl => by
    refine zqrI 1 hl fun _ hl => ?_; exact Eq.mpr (e136_0 ..) hl,
  fun f h hl => Eq.mpr (e136_1 ..) hl,
  trivial⟩) rfl hg

theorem w139 (hc : zqco c) {m : Nat} {a : List AV} (hg : runJ env c q139 u139 d139 (retA env Go.Proofs.Tryz.f139.results.toList k) m 0 (finit a) h) : zqs 139 a h k := fnI_ok mixed envOk hc q139 Go.Proofs.Tryz.func139 rfl (by kernel_rfl) (by kernel_rfl) (by kernel_rfl) (by simp [u139]) hg
theorem e141_0 (J : J141) (n_0 : Int) : zqe c k q141 u141 (f141 J) d141 Go.Proofs.Tryz.f141 .root (fset f 0 (.int .i64 n_0)) h = s141_0 c k J n_0 (f 1) h := by kernel_rfl
theorem w141 (hc : zqco c) {n : Nat} {a : List AV} (hg : f141 (r141 c k n) 0 (finit a) h) : zqs 141 a h k :=
 zqw hc q141 Go.Proofs.Tryz.func141 rfl (by kernel_rfl) (by kernel_rfl) k u141 (fun n => f141 (r141 c k n)) (fun L _ _ hl => match L, hl with
  | 0, hl => zqnI hl fun _ hl => hl
  | _ + 1, hl => hl) (fun n => ⟨
  fun f h hl => by
    refine zqrI 0 hl fun _ hl => ?_; exact Eq.mpr (e141_0 ..) hl,
  trivial⟩) rfl hg

theorem e148_0 (J : J148) : zqe c k q148 u148 (f148 J) d148 Go.Proofs.Tryz.f148 .root f h = s148_0 c k J (f 0) (f 1) h := by kernel_rfl
theorem e148_1 (J : J148) (n_5 : Int) (n_15 : Int) (n_16 : Int) : zqe c k q148 u148 (f148 J) d148 Go.Proofs.Tryz.f148 (.l (.r (.l (.r (.r .root))))) (fset (fset (fset f 5 (.int .i64 n_5)) 15 (.int .i64 n_15)) 16 (.int .i64 n_16)) h = s148_1 c k J (f 0) (f 1) n_5 (f 14) n_15 n_16 h := by kernel_rfl
theorem e148_2 (J : J148) (n_5 : Int) (n_15 : Int) (n_16 : Int) (n_34 : Int) (n_35 : Int) : zqe c k q148 u148 (f148 J) d148 Go.Proofs.Tryz.f148 (.l (.r (.l (.r (.r (.r (.l (.l (.r (.r (.l (.l (.r (.l (.r (.r .root)))))))))))))))) (fset (fset (fset (fset (fset f 5 (.int .i64 n_5)) 15 (.int .i64 n_15)) 16 (.int .i64 n_16)) 34 (.int .i64 n_34)) 35 (.int .i64 n_35)) h = s148_2 c k J (f 0) (f 1) n_5 (f 14) n_15 n_16 (f 33) n_34 n_35 h := by kernel_rfl
theorem w148 (hc : zqco c) {n : Nat} {a : List AV} (hg : f148 (r148 c k n) 0 (finit a) h) : zqs 148 a h k :=
 zqw hc q148 Go.Proofs.Tryz.func148 rfl (by kernel_rfl) (by kernel_rfl) k u148 (fun n => f148 (r148 c k n)) (fun L _ _ hl => match L, hl with
  | 0, hl => hl
  | 1, hl => zqnI hl fun _ hl => zqnI hl fun _ hl => zqnI hl fun _ hl => hl
  | 2, hl => zqnI hl fun _ hl => zqnI hl fun _ hl => zqnI hl fun _ hl => zqnI hl fun _ hl => zqnI hl fun _ hl => hl
  | _ + 3, hl => hl) (fun n => ⟨
  fun f h hl => Eq.mpr (e148_0 ..) hl,
  fun f h hl => by
    refine zqrI 5 hl fun _ hl => ?_; refine zqrI 15 hl fun _ hl => ?_; refine zqrI 16 hl fun _ hl => ?_; exact Eq.mpr (e148_1 ..) hl,
  fun f h hl => by
    refine zqrI 5 hl fun _ hl => ?_; refine zqrI 15 hl fun _ hl => ?_; refine zqrI 16 hl fun _ hl => ?_; refine zqrI 34 hl fun _ hl => ?_; refine zqrI 35 hl fun _ hl => ?_; exact Eq.mpr (e148_2 ..) hl,
  trivial⟩) rfl hg

theorem e149_0 (J : J149) : zqe c k q149 u149 (f149 J) d149 Go.Proofs.Tryz.f149 .root f h = s149_0 c k J (f 0) h := by kernel_rfl
theorem e149_1 (J : J149) (n_9 : Int) (n_10 : Int) : zqe c k q149 u149 (f149 J) d149 Go.Proofs.Tryz.f149 (.l (.r (.l (.r .root)))) (fset (fset f 9 (.int .i64 n_9)) 10 (.int .i64 n_10)) h = s149_1 c k J (f 2) (f 8) n_9 n_10 h := by kernel_rfl
theorem e149_2 (J : J149) (n_9 : Int) (n_10 : Int) (n_15 : Int) (n_16 : Int) : zqe c k q149 u149 (f149 J) d149 Go.Proofs.Tryz.f149 (.l (.r (.l (.r (.r (.l (.l (.r (.r (.l (.l (.r (.l (.r .root)))))))))))))) (fset (fset (fset (fset f 9 (.int .i64 n_9)) 10 (.int .i64 n_10)) 15 (.int .i64 n_15)) 16 (.int .i64 n_16)) h = s149_2 c k J (f 2) (f 5) (f 8) n_9 n_10 (f 14) n_15 n_16 h := by kernel_rfl
theorem w149 (hc : zqco c) {n : Nat} {a : List AV} (hg : f149 (r149 c k n) 0 (finit a) h) : zqs 149 a h k :=
 zqw hc q149 Go.Proofs.Tryz.func149 rfl (by kernel_rfl) (by kernel_rfl) k u149 (fun n => f149 (r149 c k n)) (fun L _ _ hl => match L, hl with
  | 0, hl => hl
  | 1, hl => zqnI hl fun _ hl => zqnI hl fun _ hl => hl
  | 2, hl => zqnI hl fun _ hl => zqnI hl fun _ hl => zqnI hl fun _ hl => zqnI hl fun _ hl => hl
  | _ + 3, hl => hl) (fun n => ⟨
  fun f h hl => Eq.mpr (e149_0 ..) hl,
  fun f h hl => by
    refine zqrI 9 hl fun _ hl => ?_; refine zqrI 10 hl fun _ hl => ?_; exact Eq.mpr (e149_1 ..) hl,
  fun f h hl => by
    refine zqrI 9 hl fun _ hl => ?_; refine zqrI 10 hl fun _ hl => ?_; refine zqrI 15 hl fun _ hl => ?_; refine zqrI 16 hl fun _ hl => ?_; exact Eq.mpr (e149_2 ..) hl,
  trivial⟩) rfl hg

theorem e150_0 (J : J150) : zqe c k q150 u150 (f150 J) d150 Go.Proofs.Tryz.f150 .root f h = s150_0 c k J (f 0) (f 1) (f 2) (f 3) (f 4) h := by kernel_rfl
theorem e150_1 (J : J150) (n_15 : Int) : zqe c k q150 u150 (f150 J) d150 Go.Proofs.Tryz.f150 (.l (.r (.l (.r (.r (.r (.r .root))))))) (fset f 15 (.int .i64 n_15)) h = s150_1 c k J (f 0) (f 10) (f 11) (f 12) (f 13) (f 14) n_15 h := by kernel_rfl
theorem w150 (hc : zqco c) {n : Nat} {a : List AV} (hg : f150 (r150 c k n) 0 (finit a) h) : zqs 150 a h k :=
 zqw hc q150 Go.Proofs.Tryz.func150 rfl (by kernel_rfl) (by kernel_rfl) k u150 (fun n => f150 (r150 c k n)) (fun L _ _ hl => match L, hl with
  | 0, hl => hl
  | 1, hl => zqnI hl fun _ hl => hl
  | _ + 2, hl => hl) (fun n => ⟨
  fun f h hl => Eq.mpr (e150_0 ..) hl,
  fun f h hl => by
    refine zqrI 15 hl fun _ hl => ?_; exact Eq.mpr (e150_1 ..) hl,
  trivial⟩) rfl hg

theorem w155 (hc : zqco c) {m : Nat} {a : List AV} (hg : runJ env c q155 u155 d155 (retA env Go.Proofs.Tryz.f155.results.toList k) m 0 (finit a) h) : zqs 155 a h k := fnI_ok mixed envOk hc q155 Go.Proofs.Tryz.func155 rfl (by kernel_rfl) (by kernel_rfl) (by kernel_rfl) (by simp [u155]) hg
theorem e158_0 (J : J158) (l_0 : Nat) (c_0 : Nat) (l_1 : Nat) (c_1 : Nat) : zqe c k q158 u158 (f158 J) d158 Go.Proofs.Tryz.f158 .root (fset (fset f 0 (.str l_0 c_0)) 1 (.str l_1 c_1)) h = s158_0 c k J l_0 c_0 l_1 c_1 h := by kernel_rfl
theorem e158_1 (J : J158) (l_0 : Nat) (c_0 : Nat) (l_1 : Nat) (c_1 : Nat) (n_5 : Int) (n_6 : Int) (n_7 : Int) (n_8 : Int) (n_9 : Int) (n_10 : Int) : zqe c k q158 u158 (f158 J) d158 Go.Proofs.Tryz.f158 (.l (.l (.r (.r (.r (.r (.r (.r (.r (.r .root)))))))))) (fset (fset (fset (fset (fset (fset (fset (fset f 0 (.str l_0 c_0)) 1 (.str l_1 c_1)) 5 (.int .i64 n_5)) 6 (.int .u8 n_6)) 7 (.int .u8 n_7)) 8 (.int .i64 n_8)) 9 (.int .i64 n_9)) 10 (.int .i64 n_10)) h = s158_1 c k J l_0 c_0 l_1 c_1 n_5 n_6 n_7 n_8 n_9 n_10 h := by kernel_rfl
theorem e158_2 (J : J158) (l_0 : Nat) (c_0 : Nat) (l_1 : Nat) (c_1 : Nat) (n_5 : Int) (n_6 : Int) (n_7 : Int) (n_8 : Int) (n_9 : Int) (n_10 : Int) : zqe c k q158 u158 (f158 J) d158 Go.Proofs.Tryz.f158 (.r (.l (.r (.l (.l (.l (.r (.r (.r (.r (.r (.r (.r (.r .root)))))))))))))) (fset (fset (fset (fset (fset (fset (fset (fset f 0 (.str l_0 c_0)) 1 (.str l_1 c_1)) 5 (.int .i64 n_5)) 6 (.int .u8 n_6)) 7 (.int .u8 n_7)) 8 (.int .i64 n_8)) 9 (.int .i64 n_9)) 10 (.int .i64 n_10)) h = s158_2 c k J l_0 c_0 l_1 c_1 n_5 n_6 n_7 n_8 n_9 n_10 h := by kernel_rfl
theorem w158 (hc : zqco c) {n : Nat} {a : List AV} (hg : f158 (r158 c k n) 0 (finit a) h) : zqs 158 a h k :=
 zqw hc q158 Go.Proofs.Tryz.func158 rfl (by kernel_rfl) (by kernel_rfl) k u158 (fun n => f158 (r158 c k n)) (fun L _ _ hl => match L, hl with
  | 0, hl => zqnS hl fun _ _ hl => zqnS hl fun _ _ hl => hl
  | 1, hl => zqnS hl fun _ _ hl => zqnS hl fun _ _ hl => zqnI hl fun _ hl => zqnI hl fun _ hl => zqnI hl fun _ hl => zqnI hl fun _ hl => zqnI hl fun _ hl => zqnI hl fun _ hl => hl
  | 2, hl => zqnS hl fun _ _ hl => zqnS hl fun _ _ hl => zqnI hl fun _ hl => zqnI hl fun _ hl => zqnI hl fun _ hl => zqnI hl fun _ hl => zqnI hl fun _ hl => zqnI hl fun _ hl => hl
  | _ + 3, hl => hl) (fun n => ⟨
  fun f h hl => by
    refine zqrS 0 hl fun _ _ hl => ?_; refine zqrS 1 hl fun _ _ hl => ?_; exact Eq.mpr (e158_0 ..) hl,
  fun f h hl => by
    refine zqrS 0 hl fun _ _ hl => ?_; refine zqrS 1 hl fun _ _ hl => ?_; refine zqrI 5 hl fun _ hl => ?_; refine zqrI 6 hl fun _ hl => ?_; refine zqrI 7 hl fun _ hl => ?_; refine zqrI 8 hl fun _ hl => ?_; refine zqrI 9 hl fun _ hl => ?_; refine zqrI 10 hl fun _ hl => ?_; exact Eq.mpr (e158_1 ..) hl,
  fun f h hl => by
    refine zqrS 0 hl fun _ _ hl => ?_; refine zqrS 1 hl fun _ _ hl => ?_; refine zqrI 5 hl fun _ hl => ?_; refine zqrI 6 hl fun _ hl => ?_; refine zqrI 7 hl fun _ hl => ?_; refine zqrI 8 hl fun _ hl => ?_; refine zqrI 9 hl fun _ hl => ?_; refine zqrI 10 hl fun _ hl => ?_; exact Eq.mpr (e158_2 ..) hl,
  trivial⟩) rfl hg

theorem w164 (hc : zqco c) {m : Nat} {a : List AV} (hg : runJ env c q164 u164 d164 (retA env Go.Proofs.Tryz.f164.results.toList k) m 0 (finit a) h) : zqs 164 a h k := fnI_ok mixed envOk hc q164 Go.Proofs.Tryz.func164 rfl (by kernel_rfl) (by kernel_rfl) (by kernel_rfl) (by simp [u164]) hg
theorem w170 (hc : zqco c) {m : Nat} {a : List AV} (hg : runJ env c q170 u170 d170 (retA env Go.Proofs.Tryz.f170.results.toList k) m 0 (finit a) h) : zqs 170 a h k := fnI_ok mixed envOk hc q170 Go.Proofs.Tryz.func170 rfl (by kernel_rfl) (by kernel_rfl) (by kernel_rfl) (by simp [u170]) hg
theorem w175 (hc : zqco c) {m : Nat} {a : List AV} (hg : runJ env c q175 u175 d175 (retA env Go.Proofs.Tryz.f175.results.toList k) m 0 (finit a) h) : zqs 175 a h k := fnI_ok mixed envOk hc q175 Go.Proofs.Tryz.func175 rfl (by kernel_rfl) (by kernel_rfl) (by kernel_rfl) (by simp [u175]) hg
theorem e179_0 (J : J179) (n_0 : Int) : zqe c k q179 u179 (f179 J) d179 Go.Proofs.Tryz.f179 .root (fset f 0 (.int .u8 n_0)) h = s179_0 c k J n_0 h := by kernel_rfl
theorem w179 (hc : zqco c) {n : Nat} {a : List AV} (hg : f179 (r179 c k n) 0 (finit a) h) : zqs 179 a h k :=
 zqw hc q179 Go.Proofs.Tryz.func179 rfl (by kernel_rfl) (by kernel_rfl) k u179 (fun n => f179 (r179 c k n)) (fun L _ _ hl => match L, hl with
  | 0, hl => zqnI hl fun _ hl => hl
  | _ + 1, hl => hl) (fun n => ⟨
  fun f h hl => by
    refine zqrI 0 hl fun _ hl => ?_; exact Eq.mpr (e179_0 ..) hl,
  trivial⟩) rfl hg

theorem e190_0 (J : J190) : zqe c k q190 u190 (f190 J) d190 Go.Proofs.Tryz.f190 .root f h = s190_0 c k J (f 0) h := by kernel_rfl
theorem w190 (hc : zqco c) {n : Nat} {a : List AV} (hg : f190 (r190 c k n) 0 (finit a) h) : zqs 190 a h k :=
 zqw hc q190 Go.Proofs.Tryz.func190 rfl (by kernel_rfl) (by kernel_rfl) k u190 (fun n => f190 (r190 c k n)) (fun L _ _ hl => match L, hl with
  | 0, hl => hl
  | _ + 1, hl => hl) (fun n => ⟨
  fun f h hl => Eq.mpr (e190_0 ..) hl,
  trivial⟩) rfl hg

theorem e195_0 (J : J195) (n_1 : Int) : zqe c k q195 u195 (f195 J) d195 Go.Proofs.Tryz.f195 .root (fset f 1 (.int .i64 n_1)) h = s195_0 c k J (f 0) n_1 h := by kernel_rfl
theorem e195_1 (J : J195) (n_8 : Int) (b_9 : Bool) (n_111 : Int) (n_112 : Int) : zqe c k q195 u195 (f195 J) d195 Go.Proofs.Tryz.f195 (.l (.r (.l (.r (.r (.r (.r (.r (.r (.r (.r (.r .root)))))))))))) (fset (fset (fset (fset f 8 (.int .i64 n_8)) 9 (.bool b_9)) 111 (.int .i64 n_111)) 112 (.int .i64 n_112)) h = s195_1 c k J (f 4) (f 6) n_8 b_9 (f 110) n_111 n_112 h := by kernel_rfl
theorem e195_2 (J : J195) (n_8 : Int) (b_9 : Bool) (n_11 : Int) (n_111 : Int) (n_112 : Int) : zqe c k q195 u195 (f195 J) d195 Go.Proofs.Tryz.f195 (.r (.r (.l (.l (.r (.r (.l (.l (.r (.l (.r (.r (.r (.r (.r (.r (.r (.r (.r .root))))))))))))))))))) (fset (fset (fset (fset (fset f 8 (.int .i64 n_8)) 9 (.bool b_9)) 11 (.int .i64 n_11)) 111 (.int .i64 n_111)) 112 (.int .i64 n_112)) h = s195_2 c k J (f 4) (f 6) n_8 b_9 n_11 (f 12) (f 110) n_111 n_112 h := by kernel_rfl
theorem e195_3 (J : J195) (n_8 : Int) (b_9 : Bool) : zqe c k q195 u195 (f195 J) d195 Go.Proofs.Tryz.f195 (.r (.r (.r (.r (.r (.r (.r (.r (.r .root))))))))) (fset (fset f 8 (.int .i64 n_8)) 9 (.bool b_9)) h = s195_3 c k J (f 4) (f 6) n_8 b_9 (f 10) h := by kernel_rfl
theorem e195_4 (J : J195) : zqe c k q195 u195 (f195 J) d195 Go.Proofs.Tryz.f195 (.r (.r (.l (.r (.l (.r (.r (.r .root)))))))) f h = s195_4 c k J (f 4) (f 6) h := by kernel_rfl
theorem e195_5 (J : J195) (n_8 : Int) (b_9 : Bool) : zqe c k q195 u195 (f195 J) d195 Go.Proofs.Tryz.f195 (.r (.r (.r (.r (.r (.r (.r (.r .root)))))))) (fset (fset f 8 (.int .i64 n_8)) 9 (.bool b_9)) h = s195_5 c k J (f 0) (f 4) (f 6) n_8 b_9 (f 10) h := by kernel_rfl
theorem w195 (hc : zqco c) {n : Nat} {a : List AV} (hg : f195 (r195 c k n) 0 (finit a) h) : zqs 195 a h k :=
 zqw hc q195 Go.Proofs.Tryz.func195 rfl (by kernel_rfl) (by kernel_rfl) k u195 (fun n => f195 (r195 c k n)) (fun L _ _ hl => match L, hl with
  | 0, hl => zqnI hl fun _ hl => hl
  | 1, hl => zqnI hl fun _ hl => zqnB hl fun _ hl => zqnI hl fun _ hl => zqnI hl fun _ hl => hl
  | 2, hl => zqnI hl fun _ hl => zqnB hl fun _ hl => zqnI hl fun _ hl => zqnI hl fun _ hl => zqnI hl fun _ hl => hl
  | 3, hl => zqnI hl fun _ hl => zqnB hl fun _ hl => hl
  | 4, hl => hl
  | 5, hl => zqnI hl fun _ hl => zqnB hl fun _ hl => hl
  | _ + 6, hl => hl) (fun n => ⟨
  fun f h hl => by
    refine zqrI 1 hl fun _ hl => ?_; exact Eq.mpr (e195_0 ..) hl,
  fun f h hl => by
    refine zqrI 8 hl fun _ hl => ?_; refine zqrB 9 hl fun _ hl => ?_; refine zqrI 111 hl fun _ hl => ?_; refine zqrI 112 hl fun _ hl => ?_; exact Eq.mpr (e195_1 ..) hl,
  fun f h hl => by
    refine zqrI 8 hl fun _ hl => ?_; refine zqrB 9 hl fun _ hl => ?_; refine zqrI 11 hl fun _ hl => ?_; refine zqrI 111 hl fun _ hl => ?_; refine zqrI 112 hl fun _ hl => ?_; exact Eq.mpr (e195_2 ..) hl,
  fun f h hl => by
    refine zqrI 8 hl fun _ hl => ?_; refine zqrB 9 hl fun _ hl => ?_; exact Eq.mpr (e195_3 ..) hl,
  fun f h hl => Eq.mpr (e195_4 ..) hl,
  fun f h hl => by
    refine zqrI 8 hl fun _ hl => ?_; refine zqrB 9 hl fun _ hl => ?_; exact Eq.mpr (e195_5 ..) hl,
  trivial⟩) rfl hg

theorem w196 (hc : zqco c) {m : Nat} {a : List AV} (hg : runJ env c q196 u196 d196 (retA env Go.Proofs.Tryz.f196.results.toList k) m 0 (finit a) h) : zqs 196 a h k := fnI_ok mixed envOk hc q196 Go.Proofs.Tryz.func196 rfl (by kernel_rfl) (by kernel_rfl) (by kernel_rfl) (by simp [u196]) hg
theorem e198_0 (J : J198) (n_1 : Int) : zqe c k q198 u198 (f198 J) d198 Go.Proofs.Tryz.f198 .root (fset f 1 (.int .i64 n_1)) h = s198_0 c k J (f 0) n_1 h := by kernel_rfl
theorem e198_1 (J : J198) (n_1 : Int) : zqe c k q198 u198 (f198 J) d198 Go.Proofs.Tryz.f198 (.r (.r .root)) (fset f 1 (.int .i64 n_1)) h = s198_1 c k J (f 0) n_1 h := by kernel_rfl
theorem w198 (hc : zqco c) {n : Nat} {a : List AV} (hg : f198 (r198 c k n) 0 (finit a) h) : zqs 198 a h k :=
 zqw hc q198 Go.Proofs.Tryz.func198 rfl (by kernel_rfl) (by kernel_rfl) k u198 (fun n => f198 (r198 c k n)) (fun L _ _ hl => match L, hl with
  | 0, hl => zqnI hl fun _ hl => hl
  | 1, hl => zqnI hl fun _ hl => hl
  | _ + 2, hl => hl) (fun n => ⟨
  fun f h hl => by
    refine zqrI 1 hl fun _ hl => ?_; exact Eq.mpr (e198_0 ..) hl,
  fun f h hl => by
    refine zqrI 1 hl fun _ hl => ?_; exact Eq.mpr (e198_1 ..) hl,
  trivial⟩) rfl hg

theorem w208 (hc : zqco c) {m : Nat} {a : List AV} (hg : runJ env c q208 u208 d208 (retA env Go.Proofs.Tryz.f208.results.toList k) m 0 (finit a) h) : zqs 208 a h k := fnI_ok mixed envOk hc q208 Go.Proofs.Tryz.func208 rfl (by kernel_rfl) (by kernel_rfl) (by kernel_rfl) (by simp [u208]) hg
theorem w212 (hc : zqco c) {m : Nat} {a : List AV} (hg : runJ env c q212 u212 d212 (retA env Go.Proofs.Tryz.f212.results.toList k) m 0 (finit a) h) : zqs 212 a h k := fnI_ok mixed envOk hc q212 Go.Proofs.Tryz.func212 rfl (by kernel_rfl) (by kernel_rfl) (by kernel_rfl) (by simp [u212]) hg
theorem e214_0 (J : J214) : zqe c k q214 u214 (f214 J) d214 Go.Proofs.Tryz.f214 .root f h = s214_0 c k J (f 0) (f 1) h := by kernel_rfl
theorem w214 (hc : zqco c) {n : Nat} {a : List AV} (hg : f214 (r214 c k n) 0 (finit a) h) : zqs 214 a h k :=
 zqw hc q214 Go.Proofs.Tryz.func214 rfl (by kernel_rfl) (by kernel_rfl) k u214 (fun n => f214 (r214 c k n)) (fun L _ _ hl => match L, hl with
  | 0, hl => hl
  | _ + 1, hl => hl) (fun n => ⟨
  fun f h hl => Eq.mpr (e214_0 ..) hl,
  trivial⟩) rfl hg

theorem w222 (hc : zqco c) {m : Nat} {a : List AV} (hg : runJ env c q222 u222 d222 (retA env Go.Proofs.Tryz.f222.results.toList k) m 0 (finit a) h) : zqs 222 a h k := fnI_ok mixed envOk hc q222 Go.Proofs.Tryz.func222 rfl (by kernel_rfl) (by kernel_rfl) (by kernel_rfl) (by simp [u222]) hg
theorem w226 (hc : zqco c) {m : Nat} {a : List AV} (hg : runJ env c q226 u226 d226 (retA env Go.Proofs.Tryz.f226.results.toList k) m 0 (finit a) h) : zqs 226 a h k := fnI_ok mixed envOk hc q226 Go.Proofs.Tryz.func226 rfl (by kernel_rfl) (by kernel_rfl) (by kernel_rfl) (by simp [u226]) hg
theorem e229_0 (J : J229) (n_1 : Int) : zqe c k q229 u229 (f229 J) d229 Go.Proofs.Tryz.f229 .root (fset f 1 (.int .i64 n_1)) h = s229_0 c k J (f 0) n_1 h := by kernel_rfl
theorem w229 (hc : zqco c) {n : Nat} {a : List AV} (hg : f229 (r229 c k n) 0 (finit a) h) : zqs 229 a h k :=
 zqw hc q229 Go.Proofs.Tryz.func229 rfl (by kernel_rfl) (by kernel_rfl) k u229 (fun n => f229 (r229 c k n)) (fun L _ _ hl => match L, hl with
  | 0, hl => zqnI hl fun _ hl => hl
  | _ + 1, hl => hl) (fun n => ⟨
  fun f h hl => by
    refine zqrI 1 hl fun _ hl => ?_; exact Eq.mpr (e229_0 ..) hl,
  trivial⟩) rfl hg

theorem e236_0 (J : J236) : zqe c k q236 u236 (f236 J) d236 Go.Proofs.Tryz.f236 .root f h = s236_0 c k J (f 0) h := by kernel_rfl
theorem w236 (hc : zqco c) {n : Nat} {a : List AV} (hg : f236 (r236 c k n) 0 (finit a) h) : zqs 236 a h k :=
 zqw hc q236 Go.Proofs.Tryz.func236 rfl (by kernel_rfl) (by kernel_rfl) k u236 (fun n => f236 (r236 c k n)) (fun L _ _ hl => match L, hl with
  | 0, hl => hl
  | _ + 1, hl => hl) (fun n => ⟨
  fun f h hl => Eq.mpr (e236_0 ..) hl,
  trivial⟩) rfl hg

theorem w239 (hc : zqco c) {m : Nat} {a : List AV} (hg : runJ env c q239 u239 d239 (retA env Go.Proofs.Tryz.f239.results.toList k) m 0 (finit a) h) : zqs 239 a h k := fnI_ok mixed envOk hc q239 Go.Proofs.Tryz.func239 rfl (by kernel_rfl) (by kernel_rfl) (by kernel_rfl) (by simp [u239]) hg
theorem w243 (hc : zqco c) {m : Nat} {a : List AV} (hg : runJ env c q243 u243 d243 (retA env Go.Proofs.Tryz.f243.results.toList k) m 0 (finit a) h) : zqs 243 a h k := fnI_ok mixed envOk hc q243 Go.Proofs.Tryz.func243 rfl (by kernel_rfl) (by kernel_rfl) (by kernel_rfl) (by simp [u243]) hg
theorem w250 (hc : zqco c) {m : Nat} {a : List AV} (hg : runJ env c q250 u250 d250 (retA env Go.Proofs.Tryz.f250.results.toList k) m 0 (finit a) h) : zqs 250 a h k := fnI_ok mixed envOk hc q250 Go.Proofs.Tryz.func250 rfl (by kernel_rfl) (by kernel_rfl) (by kernel_rfl) (by simp [u250]) hg
theorem w256 (hc : zqco c) {m : Nat} {a : List AV} (hg : runJ env c q256 u256 d256 (retA env Go.Proofs.Tryz.f256.results.toList k) m 0 (finit a) h) : zqs 256 a h k := fnI_ok mixed envOk hc q256 Go.Proofs.Tryz.func256 rfl (by kernel_rfl) (by kernel_rfl) (by kernel_rfl) (by simp [u256]) hg
theorem e260_0 (J : J260) (l_1 : Nat) (c_1 : Nat) : zqe c k q260 u260 (f260 J) d260 Go.Proofs.Tryz.f260 .root (fset f 1 (.str l_1 c_1)) h = s260_0 c k J (f 0) l_1 c_1 h := by kernel_rfl
theorem e260_1 (J : J260) (l_1 : Nat) (c_1 : Nat) (n_7 : Int) (n_8 : Int) : zqe c k q260 u260 (f260 J) d260 Go.Proofs.Tryz.f260 (.l (.r (.l (.r .root)))) (fset (fset (fset f 1 (.str l_1 c_1)) 7 (.int .i64 n_7)) 8 (.int .i64 n_8)) h = s260_1 c k J (f 0) l_1 c_1 n_7 n_8 h := by kernel_rfl
theorem w260 (hc : zqco c) {n : Nat} {a : List AV} (hg : f260 (r260 c k n) 0 (finit a) h) : zqs 260 a h k :=
 zqw hc q260 Go.Proofs.Tryz.func260 rfl (by kernel_rfl) (by kernel_rfl) k u260 (fun n => f260 (r260 c k n)) (fun L _ _ hl => match L, hl with
  | 0, hl => zqnS hl fun _ _ hl => hl
  | 1, hl => zqnS hl fun _ _ hl => zqnI hl fun _ hl => zqnI hl fun _ hl => hl
  | _ + 2, hl => hl) (fun n => ⟨
  fun f h hl => by
    refine zqrS 1 hl fun _ _ hl => ?_; exact Eq.mpr (e260_0 ..) hl,
  fun f h hl => by
    refine zqrS 1 hl fun _ _ hl => ?_; refine zqrI 7 hl fun _ hl => ?_; refine zqrI 8 hl fun _ hl => ?_; exact Eq.mpr (e260_1 ..) hl,
  trivial⟩) rfl hg

theorem w266 (hc : zqco c) {m : Nat} {a : List AV} (hg : runJ env c q266 u266 d266 (retA env Go.Proofs.Tryz.f266.results.toList k) m 0 (finit a) h) : zqs 266 a h k := fnI_ok mixed envOk hc q266 Go.Proofs.Tryz.func266 rfl (by kernel_rfl) (by kernel_rfl) (by kernel_rfl) (by simp [u266]) hg
theorem w271 (hc : zqco c) {m : Nat} {a : List AV} (hg : runJ env c q271 u271 d271 (retA env Go.Proofs.Tryz.f271.results.toList k) m 0 (finit a) h) : zqs 271 a h k := fnI_ok mixed envOk hc q271 Go.Proofs.Tryz.func271 rfl (by kernel_rfl) (by kernel_rfl) (by kernel_rfl) (by simp [u271]) hg
theorem w275 (hc : zqco c) {m : Nat} {a : List AV} (hg : runJ env c q275 u275 d275 (retA env Go.Proofs.Tryz.f275.results.toList k) m 0 (finit a) h) : zqs 275 a h k := fnI_ok mixed envOk hc q275 Go.Proofs.Tryz.func275 rfl (by kernel_rfl) (by kernel_rfl) (by kernel_rfl) (by simp [u275]) hg
theorem w280 (hc : zqco c) {m : Nat} {a : List AV} (hg : runJ env c q280 u280 d280 (retA env Go.Proofs.Tryz.f280.results.toList k) m 0 (finit a) h) : zqs 280 a h k := fnI_ok mixed envOk hc q280 Go.Proofs.Tryz.func280 rfl (by kernel_rfl) (by kernel_rfl) (by kernel_rfl) (by simp [u280]) hg
theorem w284 (hc : zqco c) {m : Nat} {a : List AV} (hg : runJ env c q284 u284 d284 (retA env Go.Proofs.Tryz.f284.results.toList k) m 0 (finit a) h) : zqs 284 a h k := fnI_ok mixed envOk hc q284 Go.Proofs.Tryz.func284 rfl (by kernel_rfl) (by kernel_rfl) (by kernel_rfl) (by simp [u284]) hg
theorem w295 (hc : zqco c) {m : Nat} {a : List AV} (hg : runJ env c q295 u295 d295 (retA env Go.Proofs.Tryz.f295.results.toList k) m 0 (finit a) h) : zqs 295 a h k := fnI_ok mixed envOk hc q295 Go.Proofs.Tryz.func295 rfl (by kernel_rfl) (by kernel_rfl) (by kernel_rfl) (by simp [u295]) hg
theorem w299 (hc : zqco c) {m : Nat} {a : List AV} (hg : runJ env c q299 u299 d299 (retA env Go.Proofs.Tryz.f299.results.toList k) m 0 (finit a) h) : zqs 299 a h k := fnI_ok mixed envOk hc q299 Go.Proofs.Tryz.func299 rfl (by kernel_rfl) (by kernel_rfl) (by kernel_rfl) (by simp [u299]) hg
theorem w303 (hc : zqco c) {m : Nat} {a : List AV} (hg : runJ env c q303 u303 d303 (retA env Go.Proofs.Tryz.f303.results.toList k) m 0 (finit a) h) : zqs 303 a h k := fnI_ok mixed envOk hc q303 Go.Proofs.Tryz.func303 rfl (by kernel_rfl) (by kernel_rfl) (by kernel_rfl) (by simp [u303]) hg
theorem w307 (hc : zqco c) {m : Nat} {a : List AV} (hg : runJ env c q307 u307 d307 (retA env Go.Proofs.Tryz.f307.results.toList k) m 0 (finit a) h) : zqs 307 a h k := fnI_ok mixed envOk hc q307 Go.Proofs.Tryz.func307 rfl (by kernel_rfl) (by kernel_rfl) (by kernel_rfl) (by simp [u307]) hg
theorem w311 (hc : zqco c) {m : Nat} {a : List AV} (hg : runJ env c q311 u311 d311 (retA env Go.Proofs.Tryz.f311.results.toList k) m 0 (finit a) h) : zqs 311 a h k := fnI_ok mixed envOk hc q311 Go.Proofs.Tryz.func311 rfl (by kernel_rfl) (by kernel_rfl) (by kernel_rfl) (by simp [u311]) hg
theorem w315 (hc : zqco c) {m : Nat} {a : List AV} (hg : runJ env c q315 u315 d315 (retA env Go.Proofs.Tryz.f315.results.toList k) m 0 (finit a) h) : zqs 315 a h k := fnI_ok mixed envOk hc q315 Go.Proofs.Tryz.func315 rfl (by kernel_rfl) (by kernel_rfl) (by kernel_rfl) (by simp [u315]) hg
theorem w328 (hc : zqco c) {m : Nat} {a : List AV} (hg : runJ env c q328 u328 d328 (retA env Go.Proofs.Tryz.f328.results.toList k) m 0 (finit a) h) : zqs 328 a h k := fnI_ok mixed envOk hc q328 Go.Proofs.Tryz.func328 rfl (by kernel_rfl) (by kernel_rfl) (by kernel_rfl) (by simp [u328]) hg
theorem w332 (hc : zqco c) {m : Nat} {a : List AV} (hg : runJ env c q332 u332 d332 (retA env Go.Proofs.Tryz.f332.results.toList k) m 0 (finit a) h) : zqs 332 a h k := fnI_ok mixed envOk hc q332 Go.Proofs.Tryz.func332 rfl (by kernel_rfl) (by kernel_rfl) (by kernel_rfl) (by simp [u332]) hg
theorem w336 (hc : zqco c) {m : Nat} {a : List AV} (hg : runJ env c q336 u336 d336 (retA env Go.Proofs.Tryz.f336.results.toList k) m 0 (finit a) h) : zqs 336 a h k := fnI_ok mixed envOk hc q336 Go.Proofs.Tryz.func336 rfl (by kernel_rfl) (by kernel_rfl) (by kernel_rfl) (by simp [u336]) hg
theorem w340 (hc : zqco c) {m : Nat} {a : List AV} (hg : runJ env c q340 u340 d340 (retA env Go.Proofs.Tryz.f340.results.toList k) m 0 (finit a) h) : zqs 340 a h k := fnI_ok mixed envOk hc q340 Go.Proofs.Tryz.func340 rfl (by kernel_rfl) (by kernel_rfl) (by kernel_rfl) (by simp [u340]) hg
theorem w345 (hc : zqco c) {m : Nat} {a : List AV} (hg : runJ env c q345 u345 d345 (retA env Go.Proofs.Tryz.f345.results.toList k) m 0 (finit a) h) : zqs 345 a h k := fnI_ok mixed envOk hc q345 Go.Proofs.Tryz.func345 rfl (by kernel_rfl) (by kernel_rfl) (by kernel_rfl) (by simp [u345]) hg
theorem w351 (hc : zqco c) {m : Nat} {a : List AV} (hg : runJ env c q351 u351 d351 (retA env Go.Proofs.Tryz.f351.results.toList k) m 0 (finit a) h) : zqs 351 a h k := fnI_ok mixed envOk hc q351 Go.Proofs.Tryz.func351 rfl (by kernel_rfl) (by kernel_rfl) (by kernel_rfl) (by simp [u351]) hg
theorem w355 (hc : zqco c) {m : Nat} {a : List AV} (hg : runJ env c q355 u355 d355 (retA env Go.Proofs.Tryz.f355.results.toList k) m 0 (finit a) h) : zqs 355 a h k := fnI_ok mixed envOk hc q355 Go.Proofs.Tryz.func355 rfl (by kernel_rfl) (by kernel_rfl) (by kernel_rfl) (by simp [u355]) hg
theorem w361 (hc : zqco c) {m : Nat} {a : List AV} (hg : runJ env c q361 u361 d361 (retA env Go.Proofs.Tryz.f361.results.toList k) m 0 (finit a) h) : zqs 361 a h k := fnI_ok mixed envOk hc q361 Go.Proofs.Tryz.func361 rfl (by kernel_rfl) (by kernel_rfl) (by kernel_rfl) (by simp [u361]) hg
theorem w366 (hc : zqco c) {m : Nat} {a : List AV} (hg : runJ env c q366 u366 d366 (retA env Go.Proofs.Tryz.f366.results.toList k) m 0 (finit a) h) : zqs 366 a h k := fnI_ok mixed envOk hc q366 Go.Proofs.Tryz.func366 rfl (by kernel_rfl) (by kernel_rfl) (by kernel_rfl) (by simp [u366]) hg
end Go.Den
