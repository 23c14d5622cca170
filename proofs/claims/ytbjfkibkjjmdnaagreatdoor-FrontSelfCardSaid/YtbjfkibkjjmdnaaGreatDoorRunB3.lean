/-
  A part of the proof: the pieces are what the program does.
-/
import Derived.Test.YtbjfkibkjjmdnaaGreatDoorRunA1
import Derived.Test.YtbjfkibkjjmdnaaGreatDoorRunA2
import Derived.KernelRfl
namespace Go.Den
set_option maxRecDepth 100000
variable {c : Caller Prop FT} {k : KV} {f : FT} {h : H}
theorem e9_0 (J : J9) (l_1 : Nat) (c_1 : Nat) : zqe c k q9 u9 (f9 J) d9 Go.Proofs.Tryz.f9 .root (fset f 1 (.str l_1 c_1)) h = s9_0 c k J (f 0) l_1 c_1 (f 2) h := by kernel_rfl
theorem w9 (hc : zqco c) {n : Nat} {a : List AV} (hg : f9 (r9 c k n) 0 (finit a) h) : zqs 9 a h k :=
 zqw hc q9 Go.Proofs.Tryz.func9 rfl (by kernel_rfl) (by kernel_rfl) k u9 (fun n => f9 (r9 c k n)) (fun L _ _ hl => match L, hl with
  | 0, hl => zqnS hl fun _ _ hl => hl
  | _ + 1, hl => hl) (fun n => ⟨
  fun f h hl => by
    refine zqrS 1 hl fun _ _ hl => ?_; exact Eq.mpr (e9_0 ..) hl,
  trivial⟩) rfl hg

theorem w27 (hc : zqco c) {m : Nat} {a : List AV} (hg : runJ env c q27 u27 d27 (retA env Go.Proofs.Tryz.f27.results.toList k) m 0 (finit a) h) : zqs 27 a h k := fnI_ok mixed envOk hc q27 Go.Proofs.Tryz.func27 rfl (by kernel_rfl) (by kernel_rfl) (by kernel_rfl) (by simp [u27]) hg
theorem e29_0 (J : J29) : zqe c k q29 u29 (f29 J) d29 Go.Proofs.Tryz.f29 .root f h = s29_0 c k J (f 0) h := by kernel_rfl
theorem w29 (hc : zqco c) {n : Nat} {a : List AV} (hg : f29 (r29 c k n) 0 (finit a) h) : zqs 29 a h k :=
 zqw hc q29 Go.Proofs.Tryz.func29 rfl (by kernel_rfl) (by kernel_rfl) k u29 (fun n => f29 (r29 c k n)) (fun L _ _ hl => match L, hl with
  | 0, hl => hl
  | _ + 1, hl => hl) (fun n => ⟨
  fun f h hl => Eq.mpr (e29_0 ..) hl,
  trivial⟩) rfl hg

theorem e39_0 (J : J39) (l_0 : Nat) (c_0 : Nat) : zqe c k q39 u39 (f39 J) d39 Go.Proofs.Tryz.f39 .root (fset f 0 (.str l_0 c_0)) h = s39_0 c k J l_0 c_0 h := by kernel_rfl
theorem w39 (hc : zqco c) {n : Nat} {a : List AV} (hg : f39 (r39 c k n) 0 (finit a) h) : zqs 39 a h k :=
 zqw hc q39 Go.Proofs.Tryz.func39 rfl (by kernel_rfl) (by kernel_rfl) k u39 (fun n => f39 (r39 c k n)) (fun L _ _ hl => match L, hl with
  | 0, hl => zqnS hl fun _ _ hl => hl
  | _ + 1, hl => hl) (fun n => ⟨
  fun f h hl => by
    refine zqrS 0 hl fun _ _ hl => ?_; exact Eq.mpr (e39_0 ..) hl,
  trivial⟩) rfl hg

theorem e50_0 (J : J50) (l_0 : Nat) (c_0 : Nat) (l_1 : Nat) (c_1 : Nat) : zqe c k q50 u50 (f50 J) d50 Go.Proofs.Tryz.f50 .root (fset (fset f 0 (.str l_0 c_0)) 1 (.str l_1 c_1)) h = s50_0 c k J l_0 c_0 l_1 c_1 h := by kernel_rfl
theorem e50_1 (J : J50) (l_1 : Nat) (c_1 : Nat) (n_7 : Int) : zqe c k q50 u50 (f50 J) d50 Go.Proofs.Tryz.f50 (.l (.l (.r (.r (.r .root))))) (fset (fset f 1 (.str l_1 c_1)) 7 (.int .i64 n_7)) h = s50_1 c k J l_1 c_1 (f 4) (f 6) n_7 h := by kernel_rfl
theorem e50_2 (J : J50) (l_1 : Nat) (c_1 : Nat) : zqe c k q50 u50 (f50 J) d50 Go.Proofs.Tryz.f50 (.r (.r (.l (.r (.l (.l (.l (.r (.r (.r .root)))))))))) (fset f 1 (.str l_1 c_1)) h = s50_2 c k J l_1 c_1 (f 4) (f 6) (f 8) h := by kernel_rfl
theorem e50_3 (J : J50) : zqe c k q50 u50 (f50 J) d50 Go.Proofs.Tryz.f50 (.r (.r (.r (.r (.r .root))))) f h = s50_3 c k J (f 4) (f 6) h := by kernel_rfl
theorem w50 (hc : zqco c) {n : Nat} {a : List AV} (hg : f50 (r50 c k n) 0 (finit a) h) : zqs 50 a h k :=
 zqw hc q50 Go.Proofs.Tryz.func50 rfl (by kernel_rfl) (by kernel_rfl) k u50 (fun n => f50 (r50 c k n)) (fun L _ _ hl => match L, hl with
  | 0, hl => zqnS hl fun _ _ hl => zqnS hl fun _ _ hl => hl
  | 1, hl => zqnS hl fun _ _ hl => zqnI hl fun _ hl => hl
  | 2, hl => zqnS hl fun _ _ hl => hl
  | 3, hl => hl
  | _ + 4, hl => hl) (fun n => ⟨
  fun f h hl => by
    refine zqrS 0 hl fun _ _ hl => ?_; refine zqrS 1 hl fun _ _ hl => ?_; exact Eq.mpr (e50_0 ..) hl,
  fun f h hl => by
    refine zqrS 1 hl fun _ _ hl => ?_; refine zqrI 7 hl fun _ hl => ?_; exact Eq.mpr (e50_1 ..) hl,
  fun f h hl => by
    refine zqrS 1 hl fun _ _ hl => ?_; exact Eq.mpr (e50_2 ..) hl,
  fun f h hl => Eq.mpr (e50_3 ..) hl,
  trivial⟩) rfl hg

theorem e51_0 (J : J51) : zqe c k q51 u51 (f51 J) d51 Go.Proofs.Tryz.f51 .root f h = s51_0 c k J (f 0) h := by kernel_rfl
theorem w51 (hc : zqco c) {n : Nat} {a : List AV} (hg : f51 (r51 c k n) 0 (finit a) h) : zqs 51 a h k :=
 zqw hc q51 Go.Proofs.Tryz.func51 rfl (by kernel_rfl) (by kernel_rfl) k u51 (fun n => f51 (r51 c k n)) (fun L _ _ hl => match L, hl with
  | 0, hl => hl
  | _ + 1, hl => hl) (fun n => ⟨
  fun f h hl => Eq.mpr (e51_0 ..) hl,
  trivial⟩) rfl hg

theorem e53_0 (J : J53) : zqe c k q53 u53 (f53 J) d53 Go.Proofs.Tryz.f53 .root f h = s53_0 c k J (f 0) h := by kernel_rfl
theorem e53_1 (J : J53) : zqe c k q53 u53 (f53 J) d53 Go.Proofs.Tryz.f53 (.l (.l (.r .root))) f h = s53_1 c k J (f 0) h := by kernel_rfl
theorem w53 (hc : zqco c) {n : Nat} {a : List AV} (hg : f53 (r53 c k n) 0 (finit a) h) : zqs 53 a h k :=
 zqw hc q53 Go.Proofs.Tryz.func53 rfl (by kernel_rfl) (by kernel_rfl) k u53 (fun n => f53 (r53 c k n)) (fun L _ _ hl => match L, hl with
  | 0, hl => hl
  | 1, hl => hl
  | _ + 2, hl => hl) (fun n => ⟨
  fun f h hl => Eq.mpr (e53_0 ..) hl,
  fun f h hl => Eq.mpr (e53_1 ..) hl,
  trivial⟩) rfl hg

theorem e59_0 (J : J59) (l_0 : Nat) (c_0 : Nat) (l_1 : Nat) (c_1 : Nat) : zqe c k q59 u59 (f59 J) d59 Go.Proofs.Tryz.f59 .root (fset (fset f 0 (.str l_0 c_0)) 1 (.str l_1 c_1)) h = s59_0 c k J l_0 c_0 l_1 c_1 h := by kernel_rfl
theorem w59 (hc : zqco c) {n : Nat} {a : List AV} (hg : f59 (r59 c k n) 0 (finit a) h) : zqs 59 a h k :=
 zqw hc q59 Go.Proofs.Tryz.func59 rfl (by kernel_rfl) (by kernel_rfl) k u59 (fun n => f59 (r59 c k n)) (fun L _ _ hl => match L, hl with
  | 0, hl => zqnS hl fun _ _ hl => zqnS hl fun _ _ hl => hl
  | _ + 1, hl => hl) (fun n => ⟨
  fun f h hl => by
    refine zqrS 0 hl fun _ _ hl => ?_; refine zqrS 1 hl fun _ _ hl => ?_; exact Eq.mpr (e59_0 ..) hl,
  trivial⟩) rfl hg

theorem e60_0 (J : J60) (l_0 : Nat) (c_0 : Nat) : zqe c k q60 u60 (f60 J) d60 Go.Proofs.Tryz.f60 .root (fset f 0 (.str l_0 c_0)) h = s60_0 c k J l_0 c_0 h := by kernel_rfl
theorem e60_1 (J : J60) (l_0 : Nat) (c_0 : Nat) (b_3 : Bool) (n_4 : Int) : zqe c k q60 u60 (f60 J) d60 Go.Proofs.Tryz.f60 (.l (.r (.l (.r (.r .root))))) (fset (fset (fset f 0 (.str l_0 c_0)) 3 (.bool b_3)) 4 (.int .i64 n_4)) h = s60_1 c k J l_0 c_0 b_3 n_4 h := by kernel_rfl
theorem w60 (hc : zqco c) {n : Nat} {a : List AV} (hg : f60 (r60 c k n) 0 (finit a) h) : zqs 60 a h k :=
 zqw hc q60 Go.Proofs.Tryz.func60 rfl (by kernel_rfl) (by kernel_rfl) k u60 (fun n => f60 (r60 c k n)) (fun L _ _ hl => match L, hl with
  | 0, hl => zqnS hl fun _ _ hl => hl
  | 1, hl => zqnS hl fun _ _ hl => zqnB hl fun _ hl => zqnI hl fun _ hl => hl
  | _ + 2, hl => hl) (fun n => ⟨
  fun f h hl => by
    refine zqrS 0 hl fun _ _ hl => ?_; exact Eq.mpr (e60_0 ..) hl,
  fun f h hl => by
    refine zqrS 0 hl fun _ _ hl => ?_; refine zqrB 3 hl fun _ hl => ?_; refine zqrI 4 hl fun _ hl => ?_; exact Eq.mpr (e60_1 ..) hl,
  trivial⟩) rfl hg

theorem e61_0 (J : J61) : zqe c k q61 u61 (f61 J) d61 Go.Proofs.Tryz.f61 .root f h = s61_0 c k J (f 0) (f 1) h := by kernel_rfl
theorem e61_1 (J : J61) (n_7 : Int) (n_8 : Int) : zqe c k q61 u61 (f61 J) d61 Go.Proofs.Tryz.f61 (.l (.r (.l (.r .root)))) (fset (fset f 7 (.int .i64 n_7)) 8 (.int .i64 n_8)) h = s61_1 c k J (f 0) (f 1) n_7 n_8 h := by kernel_rfl
theorem w61 (hc : zqco c) {n : Nat} {a : List AV} (hg : f61 (r61 c k n) 0 (finit a) h) : zqs 61 a h k :=
 zqw hc q61 Go.Proofs.Tryz.func61 rfl (by kernel_rfl) (by kernel_rfl) k u61 (fun n => f61 (r61 c k n)) (fun L _ _ hl => match L, hl with
  | 0, hl => hl
  | 1, hl => zqnI hl fun _ hl => zqnI hl fun _ hl => hl
  | _ + 2, hl => hl) (fun n => ⟨
  fun f h hl => Eq.mpr (e61_0 ..) hl,
  fun f h hl => by
    refine zqrI 7 hl fun _ hl => ?_; refine zqrI 8 hl fun _ hl => ?_; exact Eq.mpr (e61_1 ..) hl,
  trivial⟩) rfl hg

theorem e62_0 (J : J62) : zqe c k q62 u62 (f62 J) d62 Go.Proofs.Tryz.f62 .root f h = s62_0 c k J (f 0) h := by kernel_rfl
theorem w62 (hc : zqco c) {n : Nat} {a : List AV} (hg : f62 (r62 c k n) 0 (finit a) h) : zqs 62 a h k :=
 zqw hc q62 Go.Proofs.Tryz.func62 rfl (by kernel_rfl) (by kernel_rfl) k u62 (fun n => f62 (r62 c k n)) (fun L _ _ hl => match L, hl with
  | 0, hl => hl
  | _ + 1, hl => hl) (fun n => ⟨
  fun f h hl => Eq.mpr (e62_0 ..) hl,
  trivial⟩) rfl hg

theorem e64_0 (J : J64) (l_1 : Nat) (c_1 : Nat) : zqe c k q64 u64 (f64 J) d64 Go.Proofs.Tryz.f64 .root (fset f 1 (.str l_1 c_1)) h = s64_0 c k J (f 0) l_1 c_1 h := by kernel_rfl
theorem e64_1 (J : J64) (l_1 : Nat) (c_1 : Nat) : zqe c k q64 u64 (f64 J) d64 Go.Proofs.Tryz.f64 (.r .root) (fset f 1 (.str l_1 c_1)) h = s64_1 c k J (f 0) l_1 c_1 h := by kernel_rfl
theorem w64 (hc : zqco c) {n : Nat} {a : List AV} (hg : f64 (r64 c k n) 0 (finit a) h) : zqs 64 a h k :=
 zqw hc q64 Go.Proofs.Tryz.func64 rfl (by kernel_rfl) (by kernel_rfl) k u64 (fun n => f64 (r64 c k n)) (fun L _ _ hl => match L, hl with
  | 0, hl => zqnS hl fun _ _ hl => hl
  | 1, hl => zqnS hl fun _ _ hl => hl
  | _ + 2, hl => hl) (fun n => ⟨
  fun f h hl => by
    refine zqrS 1 hl fun _ _ hl => ?_; exact Eq.mpr (e64_0 ..) hl,
  fun f h hl => by
    refine zqrS 1 hl fun _ _ hl => ?_; exact Eq.mpr (e64_1 ..) hl,
  trivial⟩) rfl hg

theorem e66_0 (J : J66) (l_0 : Nat) (c_0 : Nat) : zqe c k q66 u66 (f66 J) d66 Go.Proofs.Tryz.f66 .root (fset f 0 (.str l_0 c_0)) h = s66_0 c k J l_0 c_0 h := by kernel_rfl
theorem e66_1 (J : J66) (l_0 : Nat) (c_0 : Nat) (n_3 : Int) : zqe c k q66 u66 (f66 J) d66 Go.Proofs.Tryz.f66 (.l (.r (.l (.r .root)))) (fset (fset f 0 (.str l_0 c_0)) 3 (.int .i64 n_3)) h = s66_1 c k J l_0 c_0 n_3 h := by kernel_rfl
theorem w66 (hc : zqco c) {n : Nat} {a : List AV} (hg : f66 (r66 c k n) 0 (finit a) h) : zqs 66 a h k :=
 zqw hc q66 Go.Proofs.Tryz.func66 rfl (by kernel_rfl) (by kernel_rfl) k u66 (fun n => f66 (r66 c k n)) (fun L _ _ hl => match L, hl with
  | 0, hl => zqnS hl fun _ _ hl => hl
  | 1, hl => zqnS hl fun _ _ hl => zqnI hl fun _ hl => hl
  | _ + 2, hl => hl) (fun n => ⟨
  fun f h hl => by
    refine zqrS 0 hl fun _ _ hl => ?_; exact Eq.mpr (e66_0 ..) hl,
  fun f h hl => by
    refine zqrS 0 hl fun _ _ hl => ?_; refine zqrI 3 hl fun _ hl => ?_; exact Eq.mpr (e66_1 ..) hl,
  trivial⟩) rfl hg

theorem e82_0 (J : J82) : zqe c k q82 u82 (f82 J) d82 Go.Proofs.Tryz.f82 .root f h = s82_0 c k J (f 0) (f 1) h := by kernel_rfl
theorem w82 (hc : zqco c) {n : Nat} {a : List AV} (hg : f82 (r82 c k n) 0 (finit a) h) : zqs 82 a h k :=
 zqw hc q82 Go.Proofs.Tryz.func82 rfl (by kernel_rfl) (by kernel_rfl) k u82 (fun n => f82 (r82 c k n)) (fun L _ _ hl => match L, hl with
  | 0, hl => hl
  | _ + 1, hl => hl) (fun n => ⟨
  fun f h hl => Eq.mpr (e82_0 ..) hl,
  trivial⟩) rfl hg

theorem e84_0 (J : J84) (l_1 : Nat) (c_1 : Nat) : zqe c k q84 u84 (f84 J) d84 Go.Proofs.Tryz.f84 .root (fset f 1 (.str l_1 c_1)) h = s84_0 c k J (f 0) l_1 c_1 h := by kernel_rfl
theorem w84 (hc : zqco c) {n : Nat} {a : List AV} (hg : f84 (r84 c k n) 0 (finit a) h) : zqs 84 a h k :=
 zqw hc q84 Go.Proofs.Tryz.func84 rfl (by kernel_rfl) (by kernel_rfl) k u84 (fun n => f84 (r84 c k n)) (fun L _ _ hl => match L, hl with
  | 0, hl => zqnS hl fun _ _ hl => hl
  | _ + 1, hl => hl) (fun n => ⟨
  fun f h hl => by
    refine zqrS 1 hl fun _ _ hl => ?_; exact Eq.mpr (e84_0 ..) hl,
  trivial⟩) rfl hg

theorem e87_0 (J : J87) (n_0 : Int) : zqe c k q87 u87 (f87 J) d87 Go.Proofs.Tryz.f87 .root (fset f 0 (.int .u8 n_0)) h = s87_0 c k J n_0 h := by kernel_rfl
theorem w87 (hc : zqco c) {n : Nat} {a : List AV} (hg : f87 (r87 c k n) 0 (finit a) h) : zqs 87 a h k :=
 zqw hc q87 Go.Proofs.Tryz.func87 rfl (by kernel_rfl) (by kernel_rfl) k u87 (fun n => f87 (r87 c k n)) (fun L _ _ hl => match L, hl with
  | 0, hl => zqnI hl fun _ hl => hl
  | _ + 1, hl => hl) (fun n => ⟨
  fun f h hl => by
    refine zqrI 0 hl fun _ hl => ?_; exact Eq.mpr (e87_0 ..) hl,
  trivial⟩) rfl hg

theorem w89 (hc : zqco c) {m : Nat} {a : List AV} (hg : runJ env c q89 u89 d89 (retA env Go.Proofs.Tryz.f89.results.toList k) m 0 (finit a) h) : zqs 89 a h k := fnI_ok mixed envOk hc q89 Go.Proofs.Tryz.func89 rfl (by kernel_rfl) (by kernel_rfl) (by kernel_rfl) (by simp [u89]) hg
theorem e90_0 (J : J90) (n_1 : Int) : zqe c k q90 u90 (f90 J) d90 Go.Proofs.Tryz.f90 .root (fset f 1 (.int .i64 n_1)) h = s90_0 c k J (f 0) n_1 h := by kernel_rfl
theorem w90 (hc : zqco c) {n : Nat} {a : List AV} (hg : f90 (r90 c k n) 0 (finit a) h) : zqs 90 a h k :=
 zqw hc q90 Go.Proofs.Tryz.func90 rfl (by kernel_rfl) (by kernel_rfl) k u90 (fun n => f90 (r90 c k n)) (fun L _ _ hl => match L, hl with
  | 0, hl => zqnI hl fun _ hl => hl
  | _ + 1, hl => hl) (fun n => ⟨
  fun f h hl => by
    refine zqrI 1 hl fun _ hl => ?_; exact Eq.mpr (e90_0 ..) hl,
  trivial⟩) rfl hg

theorem e93_0 (J : J93) (n_1 : Int) : zqe c k q93 u93 (f93 J) d93 Go.Proofs.Tryz.f93 .root (fset f 1 (.int .i64 n_1)) h = s93_0 c k J (f 0) n_1 (f 2) h := by kernel_rfl
theorem e93_1 (J : J93) : zqe c k q93 u93 (f93 J) d93 Go.Proofs.Tryz.f93 (.r (.r (.l (.r (.l (.r (.r (.r (.r .root))))))))) f h = s93_1 c k J (f 0) (f 6) h := by kernel_rfl
theorem e93_2 (J : J93) (n_1 : Int) (b_81 : Bool) : zqe c k q93 u93 (f93 J) d93 Go.Proofs.Tryz.f93 (.r (.r (.r (.l (.r (.r (.r (.r .root)))))))) (fset (fset f 1 (.int .i64 n_1)) 81 (.bool b_81)) h = s93_2 c k J (f 0) n_1 b_81 h := by kernel_rfl
theorem e93_3 (J : J93) (n_1 : Int) (n_34 : Int) (b_41 : Bool) : zqe c k q93 u93 (f93 J) d93 Go.Proofs.Tryz.f93 (.r (.l (.r (.r (.r (.r .root)))))) (fset (fset (fset f 1 (.int .i64 n_1)) 34 (.int .i64 n_34)) 41 (.bool b_41)) h = s93_3 c k J (f 0) n_1 n_34 b_41 h := by kernel_rfl
theorem e93_4 (J : J93) (n_1 : Int) : zqe c k q93 u93 (f93 J) d93 Go.Proofs.Tryz.f93 (.r (.r (.r .root))) (fset f 1 (.int .i64 n_1)) h = s93_4 c k J (f 0) n_1 h := by kernel_rfl
theorem w93 (hc : zqco c) {n : Nat} {a : List AV} (hg : f93 (r93 c k n) 0 (finit a) h) : zqs 93 a h k :=
 zqw hc q93 Go.Proofs.Tryz.func93 rfl (by kernel_rfl) (by kernel_rfl) k u93 (fun n => f93 (r93 c k n)) (fun L _ _ hl => match L, hl with
  | 0, hl => zqnI hl fun _ hl => hl
  | 1, hl => hl
  | 2, hl => zqnI hl fun _ hl => zqnB hl fun _ hl => hl
  | 3, hl => zqnI hl fun _ hl => zqnI hl fun _ hl => zqnB hl fun _ hl => hl
  | 4, hl => zqnI hl fun _ hl => hl
  | _ + 5, hl => hl) (fun n => ⟨
  fun f h hl => by
    refine zqrI 1 hl fun _ hl => ?_; exact Eq.mpr (e93_0 ..) hl,
  fun f h hl => Eq.mpr (e93_1 ..) hl,
  fun f h hl => by
    refine zqrI 1 hl fun _ hl => ?_; refine zqrB 81 hl fun _ hl => ?_; exact Eq.mpr (e93_2 ..) hl,
  fun f h hl => by
    refine zqrI 1 hl fun _ hl => ?_; refine zqrI 34 hl fun _ hl => ?_; refine zqrB 41 hl fun _ hl => ?_; exact Eq.mpr (e93_3 ..) hl,
  fun f h hl => by
    refine zqrI 1 hl fun _ hl => ?_; exact Eq.mpr (e93_4 ..) hl,
  trivial⟩) rfl hg

theorem e94_0 (J : J94) : zqe c k q94 u94 (f94 J) d94 Go.Proofs.Tryz.f94 .root f h = s94_0 c k J (f 0) h := by kernel_rfl
theorem w94 (hc : zqco c) {n : Nat} {a : List AV} (hg : f94 (r94 c k n) 0 (finit a) h) : zqs 94 a h k :=
 zqw hc q94 Go.Proofs.Tryz.func94 rfl (by kernel_rfl) (by kernel_rfl) k u94 (fun n => f94 (r94 c k n)) (fun L _ _ hl => match L, hl with
  | 0, hl => hl
  | _ + 1, hl => hl) (fun n => ⟨
  fun f h hl => Eq.mpr (e94_0 ..) hl,
  trivial⟩) rfl hg

theorem e99_0 (J : J99) : zqe c k q99 u99 (f99 J) d99 Go.Proofs.Tryz.f99 .root f h = s99_0 c k J (f 0) h := by kernel_rfl
theorem e99_1 (J : J99) (b_3 : Bool) (n_7 : Int) (n_8 : Int) (n_87 : Int) (n_88 : Int) : zqe c k q99 u99 (f99 J) d99 Go.Proofs.Tryz.f99 (.l (.r (.l (.r (.r (.r (.r (.r (.r (.r (.r (.l (.r .root))))))))))))) (fset (fset (fset (fset (fset f 3 (.bool b_3)) 7 (.int .i64 n_7)) 8 (.int .i64 n_8)) 87 (.int .i64 n_87)) 88 (.int .i64 n_88)) h = s99_1 c k J (f 0) (f 2) b_3 (f 5) n_7 n_8 (f 86) n_87 n_88 h := by kernel_rfl
theorem e99_2 (J : J99) (b_3 : Bool) (b_4 : Bool) : zqe c k q99 u99 (f99 J) d99 Go.Proofs.Tryz.f99 (.lab (.r .root) 1) (fset (fset f 3 (.bool b_3)) 4 (.bool b_4)) h = s99_2 c k J (f 0) (f 2) b_3 b_4 (f 5) h := by kernel_rfl
theorem e99_3 (J : J99) (b_3 : Bool) (n_7 : Int) (n_8 : Int) (n_87 : Int) (n_88 : Int) : zqe c k q99 u99 (f99 J) d99 Go.Proofs.Tryz.f99 (.l (.r (.l (.r (.r (.r (.r (.r (.lab (.r .root) 1))))))))) (fset (fset (fset (fset (fset f 3 (.bool b_3)) 7 (.int .i64 n_7)) 8 (.int .i64 n_8)) 87 (.int .i64 n_87)) 88 (.int .i64 n_88)) h = s99_3 c k J (f 0) (f 2) b_3 (f 5) n_7 n_8 (f 86) n_87 n_88 h := by kernel_rfl
theorem e99_4 (J : J99) (b_3 : Bool) (b_4 : Bool) : zqe c k q99 u99 (f99 J) d99 Go.Proofs.Tryz.f99 (.lab (.r .root) 0) (fset (fset f 3 (.bool b_3)) 4 (.bool b_4)) h = s99_4 c k J (f 2) b_3 b_4 h := by kernel_rfl
theorem e99_5 (J : J99) (b_3 : Bool) (b_4 : Bool) (b_6 : Bool) : zqe c k q99 u99 (f99 J) d99 Go.Proofs.Tryz.f99 (.r (.l (.r (.r (.r (.r (.r (.r (.l (.r .root)))))))))) (fset (fset (fset f 3 (.bool b_3)) 4 (.bool b_4)) 6 (.bool b_6)) h = s99_5 c k J (f 0) (f 2) b_3 b_4 (f 5) b_6 h := by kernel_rfl
theorem w99 (hc : zqco c) {n : Nat} {a : List AV} (hg : f99 (r99 c k n) 0 (finit a) h) : zqs 99 a h k :=
 zqw hc q99 Go.Proofs.Tryz.func99 rfl (by kernel_rfl) (by kernel_rfl) k u99 (fun n => f99 (r99 c k n)) (fun L _ _ hl => match L, hl with
  | 0, hl => hl
  | 1, hl => zqnB hl fun _ hl => zqnI hl fun _ hl => zqnI hl fun _ hl => zqnI hl fun _ hl => zqnI hl fun _ hl => hl
  | 2, hl => zqnB hl fun _ hl => zqnB hl fun _ hl => hl
  | 3, hl => zqnB hl fun _ hl => zqnI hl fun _ hl => zqnI hl fun _ hl => zqnI hl fun _ hl => zqnI hl fun _ hl => hl
  | 4, hl => zqnB hl fun _ hl => zqnB hl fun _ hl => hl
  | 5, hl => zqnB hl fun _ hl => zqnB hl fun _ hl => zqnB hl fun _ hl => hl
  | _ + 6, hl => hl) (fun n => ⟨
  fun f h hl => Eq.mpr (e99_0 ..) hl,
  fun f h hl => by
    refine zqrB 3 hl fun _ hl => ?_; refine zqrI 7 hl fun _ hl => ?_; refine zqrI 8 hl fun _ hl => ?_; refine zqrI 87 hl fun _ hl => ?_; refine zqrI 88 hl fun _ hl => ?_; exact Eq.mpr (e99_1 ..) hl,
  fun f h hl => by
    refine zqrB 3 hl fun _ hl => ?_; refine zqrB 4 hl fun _ hl => ?_; exact Eq.mpr (e99_2 ..) hl,
  fun f h hl => by
    refine zqrB 3 hl fun _ hl => ?_; refine zqrI 7 hl fun _ hl => ?_; refine zqrI 8 hl fun _ hl => ?_; refine zqrI 87 hl fun _ hl => ?_; refine zqrI 88 hl fun _ hl => ?_; exact Eq.mpr (e99_3 ..) hl,
  fun f h hl => by
    refine zqrB 3 hl fun _ hl => ?_; refine zqrB 4 hl fun _ hl => ?_; exact Eq.mpr (e99_4 ..) hl,
  fun f h hl => by
    refine zqrB 3 hl fun _ hl => ?_; refine zqrB 4 hl fun _ hl => ?_; refine zqrB 6 hl fun _ hl => ?_; exact Eq.mpr (e99_5 ..) hl,
  trivial⟩) rfl hg

theorem w105 (hc : zqco c) {m : Nat} {a : List AV} (hg : runJ env c q105 u105 d105 (retA env Go.Proofs.Tryz.f105.results.toList k) m 0 (finit a) h) : zqs 105 a h k := fnI_ok mixed envOk hc q105 Go.Proofs.Tryz.func105 rfl (by kernel_rfl) (by kernel_rfl) (by kernel_rfl) (by simp [u105]) hg
theorem w107 (hc : zqco c) {m : Nat} {a : List AV} (hg : runJ env c q107 u107 d107 (retA env Go.Proofs.Tryz.f107.results.toList k) m 0 (finit a) h) : zqs 107 a h k := fnI_ok mixed envOk hc q107 Go.Proofs.Tryz.func107 rfl (by kernel_rfl) (by kernel_rfl) (by kernel_rfl) (by simp [u107]) hg
theorem e115_0 (J : J115) : zqe c k q115 u115 (f115 J) d115 Go.Proofs.Tryz.f115 .root f h = s115_0 c k J (f 0) h := by kernel_rfl
theorem w115 (hc : zqco c) {n : Nat} {a : List AV} (hg : f115 (r115 c k n) 0 (finit a) h) : zqs 115 a h k :=
 zqw hc q115 Go.Proofs.Tryz.func115 rfl (by kernel_rfl) (by kernel_rfl) k u115 (fun n => f115 (r115 c k n)) (fun L _ _ hl => match L, hl with
  | 0, hl => hl
  | _ + 1, hl => hl) (fun n => ⟨
  fun f h hl => Eq.mpr (e115_0 ..) hl,
  trivial⟩) rfl hg

theorem w118 (hc : zqco c) {m : Nat} {a : List AV} (hg : runJ env c q118 u118 d118 (retA env Go.Proofs.Tryz.f118.results.toList k) m 0 (finit a) h) : zqs 118 a h k := fnI_ok mixed envOk hc q118 Go.Proofs.Tryz.func118 rfl (by kernel_rfl) (by kernel_rfl) (by kernel_rfl) (by simp [u118]) hg
theorem w125 (hc : zqco c) {m : Nat} {a : List AV} (hg : runJ env c q125 u125 d125 (retA env Go.Proofs.Tryz.f125.results.toList k) m 0 (finit a) h) : zqs 125 a h k := fnI_ok mixed envOk hc q125 Go.Proofs.Tryz.func125 rfl (by kernel_rfl) (by kernel_rfl) (by kernel_rfl) (by simp [u125]) hg
theorem e126_0 (J : J126) (l_0 : Nat) (c_0 : Nat) (l_1 : Nat) (c_1 : Nat) : zqe c k q126 u126 (f126 J) d126 Go.Proofs.Tryz.f126 .root (fset (fset f 0 (.str l_0 c_0)) 1 (.str l_1 c_1)) h = s126_0 c k J l_0 c_0 l_1 c_1 h := by kernel_rfl
theorem w126 (hc : zqco c) {n : Nat} {a : List AV} (hg : f126 (r126 c k n) 0 (finit a) h) : zqs 126 a h k :=
 zqw hc q126 Go.Proofs.Tryz.func126 rfl (by kernel_rfl) (by kernel_rfl) k u126 (fun n => f126 (r126 c k n)) (fun L _ _ hl => match L, hl with
  | 0, hl => zqnS hl fun _ _ hl => zqnS hl fun _ _ hl => hl
  | _ + 1, hl => hl) (fun n => ⟨
  fun f h hl => by
    refine zqrS 0 hl fun _ _ hl => ?_; refine zqrS 1 hl fun _ _ hl => ?_; exact Eq.mpr (e126_0 ..) hl,
  trivial⟩) rfl hg

theorem e131_0 (J : J131) (n_0 : Int) : zqe c k q131 u131 (f131 J) d131 Go.Proofs.Tryz.f131 .root (fset f 0 (.int .u8 n_0)) h = s131_0 c k J n_0 h := by kernel_rfl
theorem w131 (hc : zqco c) {n : Nat} {a : List AV} (hg : f131 (r131 c k n) 0 (finit a) h) : zqs 131 a h k :=
 zqw hc q131 Go.Proofs.Tryz.func131 rfl (by kernel_rfl) (by kernel_rfl) k u131 (fun n => f131 (r131 c k n)) (fun L _ _ hl => match L, hl with
  | 0, hl => zqnI hl fun _ hl => hl
  | _ + 1, hl => hl) (fun n => ⟨
  fun f h hl => by
    refine zqrI 0 hl fun _ hl => ?_; exact Eq.mpr (e131_0 ..) hl,
  trivial⟩) rfl hg

theorem e136_0 (J : J136) (n_1 : Int) : zqe c k q136 u136 (f136 J) d136 Go.Proofs.Tryz.f136 .root (fset f 1 (.int .i64 n_1)) h = s136_0 c k J (f 0) n_1 (f 2) h := by kernel_rfl
theorem e136_1 (J : J136) : zqe c k q136 u136 (f136 J) d136 Go.Proofs.Tryz.f136 (.r (.r .root)) f h = s136_1 c k J (f 0) h := by kernel_rfl
theorem w136 (hc : zqco c) {n : Nat} {a : List AV} (hg : f136 (r136 c k n) 0 (finit a) h) : zqs 136 a h k :=
 zqw hc q136 Go.Proofs.Tryz.func136 rfl (by kernel_rfl) (by kernel_rfl) k u136 (fun n => f136 (r136 c k n)) (fun L _ _ hl => match L, hl with
  | 0, hl => zqnI hl fun _ hl => hl
  | 1, hl => hl
  | _ + 2, hl => hl) (fun n => ⟨
  fun f h hl => by
    refine zqrI 1 hl fun _ hl => ?_; exact Eq.mpr (e136_0 ..) hl,
  fun f h hl => Eq.mpr (e136_1 ..) hl,
  trivial⟩) rfl hg

theorem w137 (hc : zqco c) {m : Nat} {a : List AV} (hg : runJ env c q137 u137 d137 (retA env Go.Proofs.Tryz.f137.results.toList k) m 0 (finit a) h) : zqs 137 a h k := fnI_ok mixed envOk hc q137 Go.Proofs.Tryz.func137 rfl (by kernel_rfl) (by kernel_rfl) (by kernel_rfl) (by simp [u137]) hg
theorem w141 (hc : zqco c) {m : Nat} {a : List AV} (hg : runJ env c q141 u141 d141 (retA env Go.Proofs.Tryz.f141.results.toList k) m 0 (finit a) h) : zqs 141 a h k := fnI_ok mixed envOk hc q141 Go.Proofs.Tryz.func141 rfl (by kernel_rfl) (by kernel_rfl) (by kernel_rfl) (by simp [u141]) hg
theorem w145 (hc : zqco c) {m : Nat} {a : List AV} (hg : runJ env c q145 u145 d145 (retA env Go.Proofs.Tryz.f145.results.toList k) m 0 (finit a) h) : zqs 145 a h k := fnI_ok mixed envOk hc q145 Go.Proofs.Tryz.func145 rfl (by kernel_rfl) (by kernel_rfl) (by kernel_rfl) (by simp [u145]) hg
theorem w149 (hc : zqco c) {m : Nat} {a : List AV} (hg : runJ env c q149 u149 d149 (retA env Go.Proofs.Tryz.f149.results.toList k) m 0 (finit a) h) : zqs 149 a h k := fnI_ok mixed envOk hc q149 Go.Proofs.Tryz.func149 rfl (by kernel_rfl) (by kernel_rfl) (by kernel_rfl) (by simp [u149]) hg
theorem w153 (hc : zqco c) {m : Nat} {a : List AV} (hg : runJ env c q153 u153 d153 (retA env Go.Proofs.Tryz.f153.results.toList k) m 0 (finit a) h) : zqs 153 a h k := fnI_ok mixed envOk hc q153 Go.Proofs.Tryz.func153 rfl (by kernel_rfl) (by kernel_rfl) (by kernel_rfl) (by simp [u153]) hg
theorem w163 (hc : zqco c) {m : Nat} {a : List AV} (hg : runJ env c q163 u163 d163 (retA env Go.Proofs.Tryz.f163.results.toList k) m 0 (finit a) h) : zqs 163 a h k := fnI_ok mixed envOk hc q163 Go.Proofs.Tryz.func163 rfl (by kernel_rfl) (by kernel_rfl) (by kernel_rfl) (by simp [u163]) hg
theorem e164_0 (J : J164) : zqe c k q164 u164 (f164 J) d164 Go.Proofs.Tryz.f164 .root f h = s164_0 c k J (f 0) h := by kernel_rfl
theorem e164_1 (J : J164) (b_3 : Bool) : zqe c k q164 u164 (f164 J) d164 Go.Proofs.Tryz.f164 (.r (.r .root)) (fset f 3 (.bool b_3)) h = s164_1 c k J (f 0) (f 2) b_3 h := by kernel_rfl
theorem e164_2 (J : J164) (l_4 : Nat) (c_4 : Nat) (b_77 : Bool) : zqe c k q164 u164 (f164 J) d164 Go.Proofs.Tryz.f164 (.r (.r (.r (.l (.r (.r (.r (.r (.r .root))))))))) (fset (fset f 4 (.str l_4 c_4)) 77 (.bool b_77)) h = s164_2 c k J (f 0) l_4 c_4 b_77 h := by kernel_rfl
theorem w164 (hc : zqco c) {n : Nat} {a : List AV} (hg : f164 (r164 c k n) 0 (finit a) h) : zqs 164 a h k :=
 zqw hc q164 Go.Proofs.Tryz.func164 rfl (by kernel_rfl) (by kernel_rfl) k u164 (fun n => f164 (r164 c k n)) (fun L _ _ hl => match L, hl with
  | 0, hl => hl
  | 1, hl => zqnB hl fun _ hl => hl
  | 2, hl => zqnS hl fun _ _ hl => zqnB hl fun _ hl => hl
  | _ + 3, hl => hl) (fun n => ⟨
  fun f h hl => Eq.mpr (e164_0 ..) hl,
  fun f h hl => by
    refine zqrB 3 hl fun _ hl => ?_; exact Eq.mpr (e164_1 ..) hl,
  fun f h hl => by
    refine zqrS 4 hl fun _ _ hl => ?_; refine zqrB 77 hl fun _ hl => ?_; exact Eq.mpr (e164_2 ..) hl,
  trivial⟩) rfl hg

theorem w170 (hc : zqco c) {m : Nat} {a : List AV} (hg : runJ env c q170 u170 d170 (retA env Go.Proofs.Tryz.f170.results.toList k) m 0 (finit a) h) : zqs 170 a h k := fnI_ok mixed envOk hc q170 Go.Proofs.Tryz.func170 rfl (by kernel_rfl) (by kernel_rfl) (by kernel_rfl) (by simp [u170]) hg
theorem w175 (hc : zqco c) {m : Nat} {a : List AV} (hg : runJ env c q175 u175 d175 (retA env Go.Proofs.Tryz.f175.results.toList k) m 0 (finit a) h) : zqs 175 a h k := fnI_ok mixed envOk hc q175 Go.Proofs.Tryz.func175 rfl (by kernel_rfl) (by kernel_rfl) (by kernel_rfl) (by simp [u175]) hg
theorem e176_0 (J : J176) (l_0 : Nat) (c_0 : Nat) : zqe c k q176 u176 (f176 J) d176 Go.Proofs.Tryz.f176 .root (fset f 0 (.str l_0 c_0)) h = s176_0 c k J l_0 c_0 h := by kernel_rfl
theorem w176 (hc : zqco c) {n : Nat} {a : List AV} (hg : f176 (r176 c k n) 0 (finit a) h) : zqs 176 a h k :=
 zqw hc q176 Go.Proofs.Tryz.func176 rfl (by kernel_rfl) (by kernel_rfl) k u176 (fun n => f176 (r176 c k n)) (fun L _ _ hl => match L, hl with
  | 0, hl => zqnS hl fun _ _ hl => hl
  | _ + 1, hl => hl) (fun n => ⟨
  fun f h hl => by
    refine zqrS 0 hl fun _ _ hl => ?_; exact Eq.mpr (e176_0 ..) hl,
  trivial⟩) rfl hg

theorem e178_0 (J : J178) : zqe c k q178 u178 (f178 J) d178 Go.Proofs.Tryz.f178 .root f h = s178_0 c k J (f 0) h := by kernel_rfl
theorem e178_1 (J : J178) (n_2 : Int) (n_3 : Int) : zqe c k q178 u178 (f178 J) d178 Go.Proofs.Tryz.f178 (.r (.r (.l (.r (.r (.l (.r (.r (.r .root))))))))) (fset (fset f 2 (.int .i64 n_2)) 3 (.int .i64 n_3)) h = s178_1 c k J n_2 n_3 h := by kernel_rfl
theorem w178 (hc : zqco c) {n : Nat} {a : List AV} (hg : f178 (r178 c k n) 0 (finit a) h) : zqs 178 a h k :=
 zqw hc q178 Go.Proofs.Tryz.func178 rfl (by kernel_rfl) (by kernel_rfl) k u178 (fun n => f178 (r178 c k n)) (fun L _ _ hl => match L, hl with
  | 0, hl => hl
  | 1, hl => zqnI hl fun _ hl => zqnI hl fun _ hl => hl
  | _ + 2, hl => hl) (fun n => ⟨
  fun f h hl => Eq.mpr (e178_0 ..) hl,
  fun f h hl => by
    refine zqrI 2 hl fun _ hl => ?_; refine zqrI 3 hl fun _ hl => ?_; exact Eq.mpr (e178_1 ..) hl,
  trivial⟩) rfl hg

theorem w188 (hc : zqco c) {m : Nat} {a : List AV} (hg : runJ env c q188 u188 d188 (retA env Go.Proofs.Tryz.f188.results.toList k) m 0 (finit a) h) : zqs 188 a h k := fnI_ok mixed envOk hc q188 Go.Proofs.Tryz.func188 rfl (by kernel_rfl) (by kernel_rfl) (by kernel_rfl) (by simp [u188]) hg
theorem w192 (hc : zqco c) {m : Nat} {a : List AV} (hg : runJ env c q192 u192 d192 (retA env Go.Proofs.Tryz.f192.results.toList k) m 0 (finit a) h) : zqs 192 a h k := fnI_ok mixed envOk hc q192 Go.Proofs.Tryz.func192 rfl (by kernel_rfl) (by kernel_rfl) (by kernel_rfl) (by simp [u192]) hg
theorem w196 (hc : zqco c) {m : Nat} {a : List AV} (hg : runJ env c q196 u196 d196 (retA env Go.Proofs.Tryz.f196.results.toList k) m 0 (finit a) h) : zqs 196 a h k := fnI_ok mixed envOk hc q196 Go.Proofs.Tryz.func196 rfl (by kernel_rfl) (by kernel_rfl) (by kernel_rfl) (by simp [u196]) hg
theorem e201_0 (J : J201) (l_0 : Nat) (c_0 : Nat) (n_1 : Int) : zqe c k q201 u201 (f201 J) d201 Go.Proofs.Tryz.f201 .root (fset (fset f 0 (.str l_0 c_0)) 1 (.int .u8 n_1)) h = s201_0 c k J l_0 c_0 n_1 h := by kernel_rfl
theorem w201 (hc : zqco c) {n : Nat} {a : List AV} (hg : f201 (r201 c k n) 0 (finit a) h) : zqs 201 a h k :=
 zqw hc q201 Go.Proofs.Tryz.func201 rfl (by kernel_rfl) (by kernel_rfl) k u201 (fun n => f201 (r201 c k n)) (fun L _ _ hl => match L, hl with
  | 0, hl => zqnS hl fun _ _ hl => zqnI hl fun _ hl => hl
  | _ + 1, hl => hl) (fun n => ⟨
  fun f h hl => by
    refine zqrS 0 hl fun _ _ hl => ?_; refine zqrI 1 hl fun _ hl => ?_; exact Eq.mpr (e201_0 ..) hl,
  trivial⟩) rfl hg

theorem w204 (hc : zqco c) {m : Nat} {a : List AV} (hg : runJ env c q204 u204 d204 (retA env Go.Proofs.Tryz.f204.results.toList k) m 0 (finit a) h) : zqs 204 a h k := fnI_ok mixed envOk hc q204 Go.Proofs.Tryz.func204 rfl (by kernel_rfl) (by kernel_rfl) (by kernel_rfl) (by simp [u204]) hg
theorem e210_0 (J : J210) : zqe c k q210 u210 (f210 J) d210 Go.Proofs.Tryz.f210 .root f h = s210_0 c k J (f 0) h := by kernel_rfl
theorem e210_1 (J : J210) (n_45 : Int) (n_46 : Int) : zqe c k q210 u210 (f210 J) d210 Go.Proofs.Tryz.f210 (.l (.r (.l (.r (.r (.r (.r (.r .root)))))))) (fset (fset f 45 (.int .i64 n_45)) 46 (.int .i64 n_46)) h = s210_1 c k J (f 2) (f 4) (f 44) n_45 n_46 h := by kernel_rfl
theorem e210_2 (J : J210) (n_45 : Int) (n_46 : Int) : zqe c k q210 u210 (f210 J) d210 Go.Proofs.Tryz.f210 (.r (.r (.l (.l (.r (.r (.l (.l (.r (.l (.r (.r (.r (.r (.r .root))))))))))))))) (fset (fset f 45 (.int .i64 n_45)) 46 (.int .i64 n_46)) h = s210_2 c k J (f 2) (f 4) (f 9) (f 44) n_45 n_46 h := by kernel_rfl
theorem w210 (hc : zqco c) {n : Nat} {a : List AV} (hg : f210 (r210 c k n) 0 (finit a) h) : zqs 210 a h k :=
 zqw hc q210 Go.Proofs.Tryz.func210 rfl (by kernel_rfl) (by kernel_rfl) k u210 (fun n => f210 (r210 c k n)) (fun L _ _ hl => match L, hl with
  | 0, hl => hl
  | 1, hl => zqnI hl fun _ hl => zqnI hl fun _ hl => hl
  | 2, hl => zqnI hl fun _ hl => zqnI hl fun _ hl => hl
  | _ + 3, hl => hl) (fun n => ⟨
  fun f h hl => Eq.mpr (e210_0 ..) hl,
  fun f h hl => by
    refine zqrI 45 hl fun _ hl => ?_; refine zqrI 46 hl fun _ hl => ?_; exact Eq.mpr (e210_1 ..) hl,
  fun f h hl => by
    refine zqrI 45 hl fun _ hl => ?_; refine zqrI 46 hl fun _ hl => ?_; exact Eq.mpr (e210_2 ..) hl,
  trivial⟩) rfl hg

theorem w211 (hc : zqco c) {m : Nat} {a : List AV} (hg : runJ env c q211 u211 d211 (retA env Go.Proofs.Tryz.f211.results.toList k) m 0 (finit a) h) : zqs 211 a h k := fnI_ok mixed envOk hc q211 Go.Proofs.Tryz.func211 rfl (by kernel_rfl) (by kernel_rfl) (by kernel_rfl) (by simp [u211]) hg
theorem w216 (hc : zqco c) {m : Nat} {a : List AV} (hg : runJ env c q216 u216 d216 (retA env Go.Proofs.Tryz.f216.results.toList k) m 0 (finit a) h) : zqs 216 a h k := fnI_ok mixed envOk hc q216 Go.Proofs.Tryz.func216 rfl (by kernel_rfl) (by kernel_rfl) (by kernel_rfl) (by simp [u216]) hg
theorem e219_0 (J : J219) (n_1 : Int) (n_2 : Int) : zqe c k q219 u219 (f219 J) d219 Go.Proofs.Tryz.f219 .root (fset (fset f 1 (.int .i64 n_1)) 2 (.int .i64 n_2)) h = s219_0 c k J (f 0) n_1 n_2 h := by kernel_rfl
theorem w219 (hc : zqco c) {n : Nat} {a : List AV} (hg : f219 (r219 c k n) 0 (finit a) h) : zqs 219 a h k :=
 zqw hc q219 Go.Proofs.Tryz.func219 rfl (by kernel_rfl) (by kernel_rfl) k u219 (fun n => f219 (r219 c k n)) (fun L _ _ hl => match L, hl with
  | 0, hl => zqnI hl fun _ hl => zqnI hl fun _ hl => hl
  | _ + 1, hl => hl) (fun n => ⟨
  fun f h hl => by
    refine zqrI 1 hl fun _ hl => ?_; refine zqrI 2 hl fun _ hl => ?_; exact Eq.mpr (e219_0 ..) hl,
  trivial⟩) rfl hg

theorem w224 (hc : zqco c) {m : Nat} {a : List AV} (hg : runJ env c q224 u224 d224 (retA env Go.Proofs.Tryz.f224.results.toList k) m 0 (finit a) h) : zqs 224 a h k := fnI_ok mixed envOk hc q224 Go.Proofs.Tryz.func224 rfl (by kernel_rfl) (by kernel_rfl) (by kernel_rfl) (by simp [u224]) hg
theorem w228 (hc : zqco c) {m : Nat} {a : List AV} (hg : runJ env c q228 u228 d228 (retA env Go.Proofs.Tryz.f228.results.toList k) m 0 (finit a) h) : zqs 228 a h k := fnI_ok mixed envOk hc q228 Go.Proofs.Tryz.func228 rfl (by kernel_rfl) (by kernel_rfl) (by kernel_rfl) (by simp [u228]) hg
theorem w232 (hc : zqco c) {m : Nat} {a : List AV} (hg : runJ env c q232 u232 d232 (retA env Go.Proofs.Tryz.f232.results.toList k) m 0 (finit a) h) : zqs 232 a h k := fnI_ok mixed envOk hc q232 Go.Proofs.Tryz.func232 rfl (by kernel_rfl) (by kernel_rfl) (by kernel_rfl) (by simp [u232]) hg
theorem e241_0 (J : J241) : zqe c k q241 u241 (f241 J) d241 Go.Proofs.Tryz.f241 .root f h = s241_0 c k J (f 0) h := by kernel_rfl
theorem w241 (hc : zqco c) {n : Nat} {a : List AV} (hg : f241 (r241 c k n) 0 (finit a) h) : zqs 241 a h k :=
 zqw hc q241 Go.Proofs.Tryz.func241 rfl (by kernel_rfl) (by kernel_rfl) k u241 (fun n => f241 (r241 c k n)) (fun L _ _ hl => match L, hl with
  | 0, hl => hl
  | _ + 1, hl => hl) (fun n => ⟨
  fun f h hl => Eq.mpr (e241_0 ..) hl,
  trivial⟩) rfl hg

theorem w242 (hc : zqco c) {m : Nat} {a : List AV} (hg : runJ env c q242 u242 d242 (retA env Go.Proofs.Tryz.f242.results.toList k) m 0 (finit a) h) : zqs 242 a h k := fnI_ok mixed envOk hc q242 Go.Proofs.Tryz.func242 rfl (by kernel_rfl) (by kernel_rfl) (by kernel_rfl) (by simp [u242]) hg
theorem e245_0 (J : J245) (l_0 : Nat) (c_0 : Nat) (l_1 : Nat) (c_1 : Nat) : zqe c k q245 u245 (f245 J) d245 Go.Proofs.Tryz.f245 .root (fset (fset f 0 (.str l_0 c_0)) 1 (.str l_1 c_1)) h = s245_0 c k J l_0 c_0 l_1 c_1 h := by kernel_rfl
theorem w245 (hc : zqco c) {n : Nat} {a : List AV} (hg : f245 (r245 c k n) 0 (finit a) h) : zqs 245 a h k :=
 zqw hc q245 Go.Proofs.Tryz.func245 rfl (by kernel_rfl) (by kernel_rfl) k u245 (fun n => f245 (r245 c k n)) (fun L _ _ hl => match L, hl with
  | 0, hl => zqnS hl fun _ _ hl => zqnS hl fun _ _ hl => hl
  | _ + 1, hl => hl) (fun n => ⟨
  fun f h hl => by
    refine zqrS 0 hl fun _ _ hl => ?_; refine zqrS 1 hl fun _ _ hl => ?_; exact Eq.mpr (e245_0 ..) hl,
  trivial⟩) rfl hg

theorem w249 (hc : zqco c) {m : Nat} {a : List AV} (hg : runJ env c q249 u249 d249 (retA env Go.Proofs.Tryz.f249.results.toList k) m 0 (finit a) h) : zqs 249 a h k := fnI_ok mixed envOk hc q249 Go.Proofs.Tryz.func249 rfl (by kernel_rfl) (by kernel_rfl) (by kernel_rfl) (by simp [u249]) hg
theorem w255 (hc : zqco c) {m : Nat} {a : List AV} (hg : runJ env c q255 u255 d255 (retA env Go.Proofs.Tryz.f255.results.toList k) m 0 (finit a) h) : zqs 255 a h k := fnI_ok mixed envOk hc q255 Go.Proofs.Tryz.func255 rfl (by kernel_rfl) (by kernel_rfl) (by kernel_rfl) (by simp [u255]) hg
theorem w260 (hc : zqco c) {m : Nat} {a : List AV} (hg : runJ env c q260 u260 d260 (retA env Go.Proofs.Tryz.f260.results.toList k) m 0 (finit a) h) : zqs 260 a h k := fnI_ok mixed envOk hc q260 Go.Proofs.Tryz.func260 rfl (by kernel_rfl) (by kernel_rfl) (by kernel_rfl) (by simp [u260]) hg
theorem w271 (hc : zqco c) {m : Nat} {a : List AV} (hg : runJ env c q271 u271 d271 (retA env Go.Proofs.Tryz.f271.results.toList k) m 0 (finit a) h) : zqs 271 a h k := fnI_ok mixed envOk hc q271 Go.Proofs.Tryz.func271 rfl (by kernel_rfl) (by kernel_rfl) (by kernel_rfl) (by simp [u271]) hg
theorem w278 (hc : zqco c) {m : Nat} {a : List AV} (hg : runJ env c q278 u278 d278 (retA env Go.Proofs.Tryz.f278.results.toList k) m 0 (finit a) h) : zqs 278 a h k := fnI_ok mixed envOk hc q278 Go.Proofs.Tryz.func278 rfl (by kernel_rfl) (by kernel_rfl) (by kernel_rfl) (by simp [u278]) hg
theorem w282 (hc : zqco c) {m : Nat} {a : List AV} (hg : runJ env c q282 u282 d282 (retA env Go.Proofs.Tryz.f282.results.toList k) m 0 (finit a) h) : zqs 282 a h k := fnI_ok mixed envOk hc q282 Go.Proofs.Tryz.func282 rfl (by kernel_rfl) (by kernel_rfl) (by kernel_rfl) (by simp [u282]) hg
theorem w293 (hc : zqco c) {m : Nat} {a : List AV} (hg : runJ env c q293 u293 d293 (retA env Go.Proofs.Tryz.f293.results.toList k) m 0 (finit a) h) : zqs 293 a h k := fnI_ok mixed envOk hc q293 Go.Proofs.Tryz.func293 rfl (by kernel_rfl) (by kernel_rfl) (by kernel_rfl) (by simp [u293]) hg
theorem w297 (hc : zqco c) {m : Nat} {a : List AV} (hg : runJ env c q297 u297 d297 (retA env Go.Proofs.Tryz.f297.results.toList k) m 0 (finit a) h) : zqs 297 a h k := fnI_ok mixed envOk hc q297 Go.Proofs.Tryz.func297 rfl (by kernel_rfl) (by kernel_rfl) (by kernel_rfl) (by simp [u297]) hg
theorem e299_0 (J : J299) (l_0 : Nat) (c_0 : Nat) (l_1 : Nat) (c_1 : Nat) : zqe c k q299 u299 (f299 J) d299 Go.Proofs.Tryz.f299 .root (fset (fset f 0 (.str l_0 c_0)) 1 (.str l_1 c_1)) h = s299_0 c k J l_0 c_0 l_1 c_1 h := by kernel_rfl
theorem w299 (hc : zqco c) {n : Nat} {a : List AV} (hg : f299 (r299 c k n) 0 (finit a) h) : zqs 299 a h k :=
 zqw hc q299 Go.Proofs.Tryz.func299 rfl (by kernel_rfl) (by kernel_rfl) k u299 (fun n => f299 (r299 c k n)) (fun L _ _ hl => match L, hl with
  | 0, hl => zqnS hl fun _ _ hl => zqnS hl fun _ _ hl => hl
  | _ + 1, hl => hl) (fun n => ⟨
  fun f h hl => by
    refine zqrS 0 hl fun _ _ hl => ?_; refine zqrS 1 hl fun _ _ hl => ?_; exact Eq.mpr (e299_0 ..) hl,
  trivial⟩) rfl hg

theorem e301_0 (J : J301) (l_0 : Nat) (c_0 : Nat) (n_1 : Int) : zqe c k q301 u301 (f301 J) d301 Go.Proofs.Tryz.f301 .root (fset (fset f 0 (.str l_0 c_0)) 1 (.int .u8 n_1)) h = s301_0 c k J l_0 c_0 n_1 h := by kernel_rfl
theorem e301_1 (J : J301) (l_0 : Nat) (c_0 : Nat) (n_1 : Int) (n_5 : Int) : zqe c k q301 u301 (f301 J) d301 Go.Proofs.Tryz.f301 (.l (.r (.l (.r .root)))) (fset (fset (fset f 0 (.str l_0 c_0)) 1 (.int .u8 n_1)) 5 (.int .i64 n_5)) h = s301_1 c k J l_0 c_0 n_1 n_5 h := by kernel_rfl
theorem w301 (hc : zqco c) {n : Nat} {a : List AV} (hg : f301 (r301 c k n) 0 (finit a) h) : zqs 301 a h k :=
 zqw hc q301 Go.Proofs.Tryz.func301 rfl (by kernel_rfl) (by kernel_rfl) k u301 (fun n => f301 (r301 c k n)) (fun L _ _ hl => match L, hl with
  | 0, hl => zqnS hl fun _ _ hl => zqnI hl fun _ hl => hl
  | 1, hl => zqnS hl fun _ _ hl => zqnI hl fun _ hl => zqnI hl fun _ hl => hl
  | _ + 2, hl => hl) (fun n => ⟨
  fun f h hl => by
    refine zqrS 0 hl fun _ _ hl => ?_; refine zqrI 1 hl fun _ hl => ?_; exact Eq.mpr (e301_0 ..) hl,
  fun f h hl => by
    refine zqrS 0 hl fun _ _ hl => ?_; refine zqrI 1 hl fun _ hl => ?_; refine zqrI 5 hl fun _ hl => ?_; exact Eq.mpr (e301_1 ..) hl,
  trivial⟩) rfl hg

theorem w305 (hc : zqco c) {m : Nat} {a : List AV} (hg : runJ env c q305 u305 d305 (retA env Go.Proofs.Tryz.f305.results.toList k) m 0 (finit a) h) : zqs 305 a h k := fnI_ok mixed envOk hc q305 Go.Proofs.Tryz.func305 rfl (by kernel_rfl) (by kernel_rfl) (by kernel_rfl) (by simp [u305]) hg
theorem w309 (hc : zqco c) {m : Nat} {a : List AV} (hg : runJ env c q309 u309 d309 (retA env Go.Proofs.Tryz.f309.results.toList k) m 0 (finit a) h) : zqs 309 a h k := fnI_ok mixed envOk hc q309 Go.Proofs.Tryz.func309 rfl (by kernel_rfl) (by kernel_rfl) (by kernel_rfl) (by simp [u309]) hg
theorem w313 (hc : zqco c) {m : Nat} {a : List AV} (hg : runJ env c q313 u313 d313 (retA env Go.Proofs.Tryz.f313.results.toList k) m 0 (finit a) h) : zqs 313 a h k := fnI_ok mixed envOk hc q313 Go.Proofs.Tryz.func313 rfl (by kernel_rfl) (by kernel_rfl) (by kernel_rfl) (by simp [u313]) hg
theorem w326 (hc : zqco c) {m : Nat} {a : List AV} (hg : runJ env c q326 u326 d326 (retA env Go.Proofs.Tryz.f326.results.toList k) m 0 (finit a) h) : zqs 326 a h k := fnI_ok mixed envOk hc q326 Go.Proofs.Tryz.func326 rfl (by kernel_rfl) (by kernel_rfl) (by kernel_rfl) (by simp [u326]) hg
theorem w330 (hc : zqco c) {m : Nat} {a : List AV} (hg : runJ env c q330 u330 d330 (retA env Go.Proofs.Tryz.f330.results.toList k) m 0 (finit a) h) : zqs 330 a h k := fnI_ok mixed envOk hc q330 Go.Proofs.Tryz.func330 rfl (by kernel_rfl) (by kernel_rfl) (by kernel_rfl) (by simp [u330]) hg
theorem w335 (hc : zqco c) {m : Nat} {a : List AV} (hg : runJ env c q335 u335 d335 (retA env Go.Proofs.Tryz.f335.results.toList k) m 0 (finit a) h) : zqs 335 a h k := fnI_ok mixed envOk hc q335 Go.Proofs.Tryz.func335 rfl (by kernel_rfl) (by kernel_rfl) (by kernel_rfl) (by simp [u335]) hg
theorem w339 (hc : zqco c) {m : Nat} {a : List AV} (hg : runJ env c q339 u339 d339 (retA env Go.Proofs.Tryz.f339.results.toList k) m 0 (finit a) h) : zqs 339 a h k := fnI_ok mixed envOk hc q339 Go.Proofs.Tryz.func339 rfl (by kernel_rfl) (by kernel_rfl) (by kernel_rfl) (by simp [u339]) hg
theorem w343 (hc : zqco c) {m : Nat} {a : List AV} (hg : runJ env c q343 u343 d343 (retA env Go.Proofs.Tryz.f343.results.toList k) m 0 (finit a) h) : zqs 343 a h k := fnI_ok mixed envOk hc q343 Go.Proofs.Tryz.func343 rfl (by kernel_rfl) (by kernel_rfl) (by kernel_rfl) (by simp [u343]) hg
theorem w350 (hc : zqco c) {m : Nat} {a : List AV} (hg : runJ env c q350 u350 d350 (retA env Go.Proofs.Tryz.f350.results.toList k) m 0 (finit a) h) : zqs 350 a h k := fnI_ok mixed envOk hc q350 Go.Proofs.Tryz.func350 rfl (by kernel_rfl) (by kernel_rfl) (by kernel_rfl) (by simp [u350]) hg
theorem w354 (hc : zqco c) {m : Nat} {a : List AV} (hg : runJ env c q354 u354 d354 (retA env Go.Proofs.Tryz.f354.results.toList k) m 0 (finit a) h) : zqs 354 a h k := fnI_ok mixed envOk hc q354 Go.Proofs.Tryz.func354 rfl (by kernel_rfl) (by kernel_rfl) (by kernel_rfl) (by simp [u354]) hg
theorem w360 (hc : zqco c) {m : Nat} {a : List AV} (hg : runJ env c q360 u360 d360 (retA env Go.Proofs.Tryz.f360.results.toList k) m 0 (finit a) h) : zqs 360 a h k := fnI_ok mixed envOk hc q360 Go.Proofs.Tryz.func360 rfl (by kernel_rfl) (by kernel_rfl) (by kernel_rfl) (by simp [u360]) hg
theorem w365 (hc : zqco c) {m : Nat} {a : List AV} (hg : runJ env c q365 u365 d365 (retA env Go.Proofs.Tryz.f365.results.toList k) m 0 (finit a) h) : zqs 365 a h k := fnI_ok mixed envOk hc q365 Go.Proofs.Tryz.func365 rfl (by kernel_rfl) (by kernel_rfl) (by kernel_rfl) (by simp [u365]) hg
end Go.Den
