/-
  A part of the proof: the pieces are what the program does.
-/
import Derived.Test.YtbjfkibkjjmdnaaGreatDoorRunA1
import Derived.Test.YtbjfkibkjjmdnaaGreatDoorRunA2
import Derived.KernelRfl
namespace Go.Den
set_option maxRecDepth 100000
variable {c : Caller Prop FT} {k : KV} {f : FT} {h : H}
theorem e23_0 (J : J23) (l_1 : Nat) (c_1 : Nat) (l_2 : Nat) (c_2 : Nat) : zqe c k q23 u23 (f23 J) d23 Go.Proofs.Tryz.f23 .root (fset (fset f 1 (.str l_1 c_1)) 2 (.str l_2 c_2)) h = s23_0 c k J (f 0) l_1 c_1 l_2 c_2 h := by kernel_rfl
theorem w23 (hc : zqco c) {n : Nat} {a : List AV} (hg : f23 (r23 c k n) 0 (finit a) h) : zqs 23 a h k :=
 zqw hc q23 Go.Proofs.Tryz.func23 rfl (by kernel_rfl) (by kernel_rfl) k u23 (fun n => f23 (r23 c k n)) (fun L _ _ hl => match L, hl with
  | 0, hl => zqnS hl fun _ _ hl => zqnS hl fun _ _ hl => hl
  | _ + 1, hl => hl) (fun n => ⟨
  fun f h hl => by
    refine zqrS 1 hl fun _ _ hl => ?_; refine zqrS 2 hl fun _ _ hl => ?_; exact Eq.mpr (e23_0 ..) hl,
  trivial⟩) rfl hg

theorem e27_0 (J : J27) : zqe c k q27 u27 (f27 J) d27 Go.Proofs.Tryz.f27 .root f h = s27_0 c k J (f 0) h := by kernel_rfl
theorem w27 (hc : zqco c) {n : Nat} {a : List AV} (hg : f27 (r27 c k n) 0 (finit a) h) : zqs 27 a h k :=
 zqw hc q27 Go.Proofs.Tryz.func27 rfl (by kernel_rfl) (by kernel_rfl) k u27 (fun n => f27 (r27 c k n)) (fun L _ _ hl => match L, hl with
  | 0, hl => hl
  | _ + 1, hl => hl) (fun n => ⟨
  fun f h hl => Eq.mpr (e27_0 ..) hl,
  trivial⟩) rfl hg

theorem e39_0 (J : J39) (l_0 : Nat) (c_0 : Nat) : zqe c k q39 u39 (f39 J) d39 Go.Proofs.Tryz.f39 .root (fset f 0 (.str l_0 c_0)) h = s39_0 c k J l_0 c_0 h := by kernel_rfl
theorem w39 (hc : zqco c) {n : Nat} {a : List AV} (hg : f39 (r39 c k n) 0 (finit a) h) : zqs 39 a h k :=
 zqw hc q39 Go.Proofs.Tryz.func39 rfl (by kernel_rfl) (by kernel_rfl) k u39 (fun n => f39 (r39 c k n)) (fun L _ _ hl => match L, hl with
  | 0, hl => zqnS hl fun _ _ hl => hl
  | _ + 1, hl => hl) (fun n => ⟨
  fun f h hl => by
    refine zqrS 0 hl fun _ _ hl => ?_; exact Eq.mpr (e39_0 ..) hl,
  trivial⟩) rfl hg

theorem e42_0 (J : J42) (l_0 : Nat) (c_0 : Nat) : zqe c k q42 u42 (f42 J) d42 Go.Proofs.Tryz.f42 .root (fset f 0 (.str l_0 c_0)) h = s42_0 c k J l_0 c_0 h := by kernel_rfl
theorem e42_1 (J : J42) (n_4 : Int) : zqe c k q42 u42 (f42 J) d42 Go.Proofs.Tryz.f42 (.l (.r (.l (.r (.r (.r .root)))))) (fset f 4 (.int .i64 n_4)) h = s42_1 c k J (f 3) n_4 h := by kernel_rfl
theorem w42 (hc : zqco c) {n : Nat} {a : List AV} (hg : f42 (r42 c k n) 0 (finit a) h) : zqs 42 a h k :=
 zqw hc q42 Go.Proofs.Tryz.func42 rfl (by kernel_rfl) (by kernel_rfl) k u42 (fun n => f42 (r42 c k n)) (fun L _ _ hl => match L, hl with
  | 0, hl => zqnS hl fun _ _ hl => hl
  | 1, hl => zqnI hl fun _ hl => hl
  | _ + 2, hl => hl) (fun n => ⟨
  fun f h hl => by
    refine zqrS 0 hl fun _ _ hl => ?_; exact Eq.mpr (e42_0 ..) hl,
  fun f h hl => by
    refine zqrI 4 hl fun _ hl => ?_; exact Eq.mpr (e42_1 ..) hl,
  trivial⟩) rfl hg

theorem e47_0 (J : J47) (l_1 : Nat) (c_1 : Nat) : zqe c k q47 u47 (f47 J) d47 Go.Proofs.Tryz.f47 .root (fset f 1 (.str l_1 c_1)) h = s47_0 c k J (f 0) l_1 c_1 h := by kernel_rfl
theorem e47_1 (J : J47) (n_70 : Int) (n_71 : Int) : zqe c k q47 u47 (f47 J) d47 Go.Proofs.Tryz.f47 (.l (.r (.l (.r (.r (.r (.r (.r (.r (.r .root)))))))))) (fset (fset f 70 (.int .i64 n_70)) 71 (.int .i64 n_71)) h = s47_1 c k J (f 0) (f 69) n_70 n_71 h := by kernel_rfl
theorem e47_2 (J : J47) : zqe c k q47 u47 (f47 J) d47 Go.Proofs.Tryz.f47 (.r (.r (.r (.r (.r (.r (.r .root))))))) f h = s47_2 c k J (f 0) (f 7) h := by kernel_rfl
theorem w47 (hc : zqco c) {n : Nat} {a : List AV} (hg : f47 (r47 c k n) 0 (finit a) h) : zqs 47 a h k :=
 zqw hc q47 Go.Proofs.Tryz.func47 rfl (by kernel_rfl) (by kernel_rfl) k u47 (fun n => f47 (r47 c k n)) (fun L _ _ hl => match L, hl with
  | 0, hl => zqnS hl fun _ _ hl => hl
  | 1, hl => zqnI hl fun _ hl => zqnI hl fun _ hl => hl
  | 2, hl => hl
  | _ + 3, hl => hl) (fun n => ⟨
  fun f h hl => by
    refine zqrS 1 hl fun _ _ hl => ?_; exact Eq.mpr (e47_0 ..) hl,
  fun f h hl => by
    refine zqrI 70 hl fun _ hl => ?_; refine zqrI 71 hl fun _ hl => ?_; exact Eq.mpr (e47_1 ..) hl,
  fun f h hl => Eq.mpr (e47_2 ..) hl,
  trivial⟩) rfl hg

theorem e49_0 (J : J49) : zqe c k q49 u49 (f49 J) d49 Go.Proofs.Tryz.f49 .root f h = s49_0 c k J (f 0) h := by kernel_rfl
theorem w49 (hc : zqco c) {n : Nat} {a : List AV} (hg : f49 (r49 c k n) 0 (finit a) h) : zqs 49 a h k :=
 zqw hc q49 Go.Proofs.Tryz.func49 rfl (by kernel_rfl) (by kernel_rfl) k u49 (fun n => f49 (r49 c k n)) (fun L _ _ hl => match L, hl with
  | 0, hl => hl
  | _ + 1, hl => hl) (fun n => ⟨
  fun f h hl => Eq.mpr (e49_0 ..) hl,
  trivial⟩) rfl hg

theorem e50_0 (J : J50) (l_0 : Nat) (c_0 : Nat) (l_1 : Nat) (c_1 : Nat) : zqe c k q50 u50 (f50 J) d50 Go.Proofs.Tryz.f50 .root (fset (fset f 0 (.str l_0 c_0)) 1 (.str l_1 c_1)) h = s50_0 c k J l_0 c_0 l_1 c_1 h := by kernel_rfl
theorem e50_1 (J : J50) (l_1 : Nat) (c_1 : Nat) (n_7 : Int) : zqe c k q50 u50 (f50 J) d50 Go.Proofs.Tryz.f50 (.l (.l (.r (.r (.r .root))))) (fset (fset f 1 (.str l_1 c_1)) 7 (.int .i64 n_7)) h = s50_1 c k J l_1 c_1 (f 4) (f 6) n_7 h := by kernel_rfl
theorem e50_2 (J : J50) (l_1 : Nat) (c_1 : Nat) : zqe c k q50 u50 (f50 J) d50 Go.Proofs.Tryz.f50 (.r (.r (.l (.r (.l (.l (.l (.r (.r (.r .root)))))))))) (fset f 1 (.str l_1 c_1)) h = s50_2 c k J l_1 c_1 (f 4) (f 6) (f 8) h := by kernel_rfl
theorem e50_3 (J : J50) : zqe c k q50 u50 (f50 J) d50 Go.Proofs.Tryz.f50 (.r (.r (.r (.r (.r .root))))) f h = s50_3 c k J (f 4) (f 6) h := by kernel_rfl
theorem w50 (hc : zqco c) {n : Nat} {a : List AV} (hg : f50 (r50 c k n) 0 (finit a) h) : zqs 50 a h k :=
 zqw hc q50 Go.Proofs.Tryz.func50 rfl (by kernel_rfl) (by kernel_rfl) k u50 (fun n => f50 (r50 c k n)) (fun L _ _ hl => match L, hl with
  | 0, hl => zqnS hl fun _ _ hl => zqnS hl fun _ _ hl => hl
  | 1, hl => zqnS hl fun _ _ hl => zqnI hl fun _ hl => hl
  | 2, hl => zqnS hl fun _ _ hl => hl
  | 3, hl => hl
  | _ + 4, hl => hl) (fun n => ⟨
  fun f h hl => by
    refine zqrS 0 hl fun _ _ hl => ?_; refine zqrS 1 hl fun _ _ hl => ?_; exact Eq.mpr (e50_0 ..) hl,
  fun f h hl => by
    refine zqrS 1 hl fun _ _ hl => ?_; refine zqrI 7 hl fun _ hl => ?_; exact Eq.mpr (e50_1 ..) hl,
  fun f h hl => by
    refine zqrS 1 hl fun _ _ hl => ?_; exact Eq.mpr (e50_2 ..) hl,
  fun f h hl => Eq.mpr (e50_3 ..) hl,
  trivial⟩) rfl hg

theorem e53_0 (J : J53) : zqe c k q53 u53 (f53 J) d53 Go.Proofs.Tryz.f53 .root f h = s53_0 c k J (f 0) h := by kernel_rfl
theorem e53_1 (J : J53) : zqe c k q53 u53 (f53 J) d53 Go.Proofs.Tryz.f53 (.l (.l (.r .root))) f h = s53_1 c k J (f 0) h := by kernel_rfl
theorem w53 (hc : zqco c) {n : Nat} {a : List AV} (hg : f53 (r53 c k n) 0 (finit a) h) : zqs 53 a h k :=
 zqw hc q53 Go.Proofs.Tryz.func53 rfl (by kernel_rfl) (by kernel_rfl) k u53 (fun n => f53 (r53 c k n)) (fun L _ _ hl => match L, hl with
  | 0, hl => hl
  | 1, hl => hl
  | _ + 2, hl => hl) (fun n => ⟨
  fun f h hl => Eq.mpr (e53_0 ..) hl,
  fun f h hl => Eq.mpr (e53_1 ..) hl,
  trivial⟩) rfl hg

theorem e56_0 (J : J56) : zqe c k q56 u56 (f56 J) d56 Go.Proofs.Tryz.f56 .root f h = s56_0 c k J (f 0) h := by kernel_rfl
theorem w56 (hc : zqco c) {n : Nat} {a : List AV} (hg : f56 (r56 c k n) 0 (finit a) h) : zqs 56 a h k :=
 zqw hc q56 Go.Proofs.Tryz.func56 rfl (by kernel_rfl) (by kernel_rfl) k u56 (fun n => f56 (r56 c k n)) (fun L _ _ hl => match L, hl with
  | 0, hl => hl
  | _ + 1, hl => hl) (fun n => ⟨
  fun f h hl => Eq.mpr (e56_0 ..) hl,
  trivial⟩) rfl hg

theorem e67_0 (J : J67) (l_1 : Nat) (c_1 : Nat) : zqe c k q67 u67 (f67 J) d67 Go.Proofs.Tryz.f67 .root (fset f 1 (.str l_1 c_1)) h = s67_0 c k J (f 0) l_1 c_1 h := by kernel_rfl
theorem e67_1 (J : J67) (l_1 : Nat) (c_1 : Nat) (n_4 : Int) : zqe c k q67 u67 (f67 J) d67 Go.Proofs.Tryz.f67 (.l (.r (.l .root))) (fset (fset f 1 (.str l_1 c_1)) 4 (.int .i64 n_4)) h = s67_1 c k J (f 0) l_1 c_1 n_4 h := by kernel_rfl
theorem w67 (hc : zqco c) {n : Nat} {a : List AV} (hg : f67 (r67 c k n) 0 (finit a) h) : zqs 67 a h k :=
 zqw hc q67 Go.Proofs.Tryz.func67 rfl (by kernel_rfl) (by kernel_rfl) k u67 (fun n => f67 (r67 c k n)) (fun L _ _ hl => match L, hl with
  | 0, hl => zqnS hl fun _ _ hl => hl
  | 1, hl => zqnS hl fun _ _ hl => zqnI hl fun _ hl => hl
  | _ + 2, hl => hl) (fun n => ⟨
  fun f h hl => by
    refine zqrS 1 hl fun _ _ hl => ?_; exact Eq.mpr (e67_0 ..) hl,
  fun f h hl => by
    refine zqrS 1 hl fun _ _ hl => ?_; refine zqrI 4 hl fun _ hl => ?_; exact Eq.mpr (e67_1 ..) hl,
  trivial⟩) rfl hg

theorem w73 (hc : zqco c) {m : Nat} {a : List AV} (hg : runJ env c q73 u73 d73 (retA env Go.Proofs.Tryz.f73.results.toList k) m 0 (finit a) h) : zqs 73 a h k := fnI_ok mixed envOk hc q73 Go.Proofs.Tryz.func73 rfl (by kernel_rfl) (by kernel_rfl) (by kernel_rfl) (by simp [u73]) hg
theorem e76_0 (J : J76) : zqe c k q76 u76 (f76 J) d76 Go.Proofs.Tryz.f76 .root f h = s76_0 c k J (f 0) (f 1) h := by kernel_rfl
theorem e76_1 (J : J76) (n_3 : Int) : zqe c k q76 u76 (f76 J) d76 Go.Proofs.Tryz.f76 (.l (.r .root)) (fset f 3 (.int .i64 n_3)) h = s76_1 c k J (f 0) (f 1) n_3 h := by kernel_rfl
theorem w76 (hc : zqco c) {n : Nat} {a : List AV} (hg : f76 (r76 c k n) 0 (finit a) h) : zqs 76 a h k :=
 zqw hc q76 Go.Proofs.Tryz.func76 rfl (by kernel_rfl) (by kernel_rfl) k u76 (fun n => f76 (r76 c k n)) (fun L _ _ hl => match L, hl with
  | 0, hl => hl
  | 1, hl => zqnI hl fun _ hl => hl
  | _ + 2, hl => hl) (fun n => ⟨
  fun f h hl => Eq.mpr (e76_0 ..) hl,
  fun f h hl => by
    refine zqrI 3 hl fun _ hl => ?_; exact Eq.mpr (e76_1 ..) hl,
  trivial⟩) rfl hg

theorem e82_0 (J : J82) : zqe c k q82 u82 (f82 J) d82 Go.Proofs.Tryz.f82 .root f h = s82_0 c k J (f 0) (f 1) h := by kernel_rfl
theorem w82 (hc : zqco c) {n : Nat} {a : List AV} (hg : f82 (r82 c k n) 0 (finit a) h) : zqs 82 a h k :=
 zqw hc q82 Go.Proofs.Tryz.func82 rfl (by kernel_rfl) (by kernel_rfl) k u82 (fun n => f82 (r82 c k n)) (fun L _ _ hl => match L, hl with
  | 0, hl => hl
  | _ + 1, hl => hl) (fun n => ⟨
  fun f h hl => Eq.mpr (e82_0 ..) hl,
  trivial⟩) rfl hg

theorem e87_0 (J : J87) (n_0 : Int) : zqe c k q87 u87 (f87 J) d87 Go.Proofs.Tryz.f87 .root (fset f 0 (.int .u8 n_0)) h = s87_0 c k J n_0 h := by kernel_rfl
theorem w87 (hc : zqco c) {n : Nat} {a : List AV} (hg : f87 (r87 c k n) 0 (finit a) h) : zqs 87 a h k :=
 zqw hc q87 Go.Proofs.Tryz.func87 rfl (by kernel_rfl) (by kernel_rfl) k u87 (fun n => f87 (r87 c k n)) (fun L _ _ hl => match L, hl with
  | 0, hl => zqnI hl fun _ hl => hl
  | _ + 1, hl => hl) (fun n => ⟨
  fun f h hl => by
    refine zqrI 0 hl fun _ hl => ?_; exact Eq.mpr (e87_0 ..) hl,
  trivial⟩) rfl hg

theorem e90_0 (J : J90) (n_1 : Int) : zqe c k q90 u90 (f90 J) d90 Go.Proofs.Tryz.f90 .root (fset f 1 (.int .i64 n_1)) h = s90_0 c k J (f 0) n_1 h := by kernel_rfl
theorem w90 (hc : zqco c) {n : Nat} {a : List AV} (hg : f90 (r90 c k n) 0 (finit a) h) : zqs 90 a h k :=
 zqw hc q90 Go.Proofs.Tryz.func90 rfl (by kernel_rfl) (by kernel_rfl) k u90 (fun n => f90 (r90 c k n)) (fun L _ _ hl => match L, hl with
  | 0, hl => zqnI hl fun _ hl => hl
  | _ + 1, hl => hl) (fun n => ⟨
  fun f h hl => by
    refine zqrI 1 hl fun _ hl => ?_; exact Eq.mpr (e90_0 ..) hl,
  trivial⟩) rfl hg

theorem e94_0 (J : J94) : zqe c k q94 u94 (f94 J) d94 Go.Proofs.Tryz.f94 .root f h = s94_0 c k J (f 0) h := by kernel_rfl
theorem w94 (hc : zqco c) {n : Nat} {a : List AV} (hg : f94 (r94 c k n) 0 (finit a) h) : zqs 94 a h k :=
 zqw hc q94 Go.Proofs.Tryz.func94 rfl (by kernel_rfl) (by kernel_rfl) k u94 (fun n => f94 (r94 c k n)) (fun L _ _ hl => match L, hl with
  | 0, hl => hl
  | _ + 1, hl => hl) (fun n => ⟨
  fun f h hl => Eq.mpr (e94_0 ..) hl,
  trivial⟩) rfl hg

theorem e97_0 (J : J97) (n_1 : Int) (n_2 : Int) (n_3 : Int) : zqe c k q97 u97 (f97 J) d97 Go.Proofs.Tryz.f97 .root (fset (fset (fset f 1 (.int .i64 n_1)) 2 (.int .i64 n_2)) 3 (.int .i64 n_3)) h = s97_0 c k J (f 0) n_1 n_2 n_3 h := by kernel_rfl
theorem e97_1 (J : J97) (n_1 : Int) (n_2 : Int) (n_3 : Int) (b_8 : Bool) (b_9 : Bool) : zqe c k q97 u97 (f97 J) d97 Go.Proofs.Tryz.f97 (.l (.r (.r .root))) (fset (fset (fset (fset (fset f 1 (.int .i64 n_1)) 2 (.int .i64 n_2)) 3 (.int .i64 n_3)) 8 (.bool b_8)) 9 (.bool b_9)) h = s97_1 c k J (f 0) n_1 n_2 n_3 b_8 b_9 h := by kernel_rfl
theorem e97_2 (J : J97) (n_1 : Int) (n_2 : Int) (n_3 : Int) (b_8 : Bool) (b_9 : Bool) (n_10 : Int) (n_11 : Int) : zqe c k q97 u97 (f97 J) d97 Go.Proofs.Tryz.f97 (.r (.r (.r (.r (.r (.r (.r (.l (.l (.l (.r (.r .root)))))))))))) (fset (fset (fset (fset (fset (fset (fset f 1 (.int .i64 n_1)) 2 (.int .i64 n_2)) 3 (.int .i64 n_3)) 8 (.bool b_8)) 9 (.bool b_9)) 10 (.int .i64 n_10)) 11 (.int .i64 n_11)) h = s97_2 c k J (f 0) n_1 n_2 n_3 b_8 b_9 n_10 n_11 h := by kernel_rfl
theorem e97_3 (J : J97) (n_1 : Int) (n_2 : Int) (n_3 : Int) (b_8 : Bool) (b_9 : Bool) (n_10 : Int) (n_11 : Int) (n_12 : Int) : zqe c k q97 u97 (f97 J) d97 Go.Proofs.Tryz.f97 (.r (.r (.r (.r (.r (.r (.l (.l (.l (.r (.r .root))))))))))) (fset (fset (fset (fset (fset (fset (fset (fset f 1 (.int .i64 n_1)) 2 (.int .i64 n_2)) 3 (.int .i64 n_3)) 8 (.bool b_8)) 9 (.bool b_9)) 10 (.int .i64 n_10)) 11 (.int .i64 n_11)) 12 (.int .i64 n_12)) h = s97_3 c k J (f 0) n_1 n_2 n_3 b_8 b_9 n_10 n_11 n_12 h := by kernel_rfl
theorem e97_4 (J : J97) (n_1 : Int) (n_2 : Int) (n_3 : Int) (b_8 : Bool) (b_9 : Bool) (n_10 : Int) : zqe c k q97 u97 (f97 J) d97 Go.Proofs.Tryz.f97 (.r (.r (.r (.r (.l (.l (.l (.r (.r .root))))))))) (fset (fset (fset (fset (fset (fset f 1 (.int .i64 n_1)) 2 (.int .i64 n_2)) 3 (.int .i64 n_3)) 8 (.bool b_8)) 9 (.bool b_9)) 10 (.int .i64 n_10)) h = s97_4 c k J (f 0) n_1 n_2 n_3 b_8 b_9 n_10 h := by kernel_rfl
theorem w97 (hc : zqco c) {n : Nat} {a : List AV} (hg : f97 (r97 c k n) 0 (finit a) h) : zqs 97 a h k :=
 zqw hc q97 Go.Proofs.Tryz.func97 rfl (by kernel_rfl) (by kernel_rfl) k u97 (fun n => f97 (r97 c k n)) (fun L _ _ hl => match L, hl with
  | 0, hl => zqnI hl fun _ hl => zqnI hl fun _ hl => zqnI hl fun _ hl => hl
  | 1, hl => zqnI hl fun _ hl => zqnI hl fun _ hl => zqnI hl fun _ hl => zqnB hl fun _ hl => zqnB hl fun _ hl => hl
  | 2, hl => zqnI hl fun _ hl => zqnI hl fun _ hl => zqnI hl fun _ hl => zqnB hl fun _ hl => zqnB hl fun _ hl => zqnI hl fun _ hl => zqnI hl fun _ hl => hl
  | 3, hl => zqnI hl fun _ hl => zqnI hl fun _ hl => zqnI hl fun _ hl => zqnB hl fun _ hl => zqnB hl fun _ hl => zqnI hl fun _ hl => zqnI hl fun _ hl => zqnI hl fun _ hl => hl
  | 4, hl => zqnI hl fun _ hl => zqnI hl fun _ hl => zqnI hl fun _ hl => zqnB hl fun _ hl => zqnB hl fun _ hl => zqnI hl fun _ hl => hl
  | _ + 5, hl => hl) (fun n => ⟨
  fun f h hl => by
    refine zqrI 1 hl fun _ hl => ?_; refine zqrI 2 hl fun _ hl => ?_; refine zqrI 3 hl fun _ hl => ?_; exact Eq.mpr (e97_0 ..) hl,
  fun f h hl => by
    refine zqrI 1 hl fun _ hl => ?_; refine zqrI 2 hl fun _ hl => ?_; refine zqrI 3 hl fun _ hl => ?_; refine zqrB 8 hl fun _ hl => ?_; refine zqrB 9 hl fun _ hl => ?_; exact Eq.mpr (e97_1 ..) hl,
  fun f h hl => by
    refine zqrI 1 hl fun _ hl => ?_; refine zqrI 2 hl fun _ hl => ?_; refine zqrI 3 hl fun _ hl => ?_; refine zqrB 8 hl fun _ hl => ?_; refine zqrB 9 hl fun _ hl => ?_; refine zqrI 10 hl fun _ hl => ?_; refine zqrI 11 hl fun _ hl => ?_; exact Eq.mpr (e97_2 ..) hl,
  fun f h hl => by
    refine zqrI 1 hl fun _ hl => ?_; refine zqrI 2 hl fun _ hl => ?_; refine zqrI 3 hl fun _ hl => ?_; refine zqrB 8 hl fun _ hl => ?_; refine zqrB 9 hl fun _ hl => ?_; refine zqrI 10 hl fun _ hl => ?_; refine zqrI 11 hl fun _ hl => ?_; refine zqrI 12 hl fun _ hl => ?_; exact Eq.mpr (e97_3 ..) hl,
  fun f h hl => by
    refine zqrI 1 hl fun _ hl => ?_; refine zqrI 2 hl fun _ hl => ?_; refine zqrI 3 hl fun _ hl => ?_; refine zqrB 8 hl fun _ hl => ?_; refine zqrB 9 hl fun _ hl => ?_; refine zqrI 10 hl fun _ hl => ?_; exact Eq.mpr (e97_4 ..) hl,
  trivial⟩) rfl hg

theorem w113 (hc : zqco c) {m : Nat} {a : List AV} (hg : runJ env c q113 u113 d113 (retA env Go.Proofs.Tryz.f113.results.toList k) m 0 (finit a) h) : zqs 113 a h k := fnI_ok mixed envOk hc q113 Go.Proofs.Tryz.func113 rfl (by kernel_rfl) (by kernel_rfl) (by kernel_rfl) (by simp [u113]) hg
theorem e115_0 (J : J115) : zqe c k q115 u115 (f115 J) d115 Go.Proofs.Tryz.f115 .root f h = s115_0 c k J (f 0) h := by kernel_rfl
theorem w115 (hc : zqco c) {n : Nat} {a : List AV} (hg : f115 (r115 c k n) 0 (finit a) h) : zqs 115 a h k :=
 zqw hc q115 Go.Proofs.Tryz.func115 rfl (by kernel_rfl) (by kernel_rfl) k u115 (fun n => f115 (r115 c k n)) (fun L _ _ hl => match L, hl with
  | 0, hl => hl
  | _ + 1, hl => hl) (fun n => ⟨
  fun f h hl => Eq.mpr (e115_0 ..) hl,
  trivial⟩) rfl hg

theorem w118 (hc : zqco c) {m : Nat} {a : List AV} (hg : runJ env c q118 u118 d118 (retA env Go.Proofs.Tryz.f118.results.toList k) m 0 (finit a) h) : zqs 118 a h k := fnI_ok mixed envOk hc q118 Go.Proofs.Tryz.func118 rfl (by kernel_rfl) (by kernel_rfl) (by kernel_rfl) (by simp [u118]) hg
theorem e119_0 (J : J119) (n_1 : Int) : zqe c k q119 u119 (f119 J) d119 Go.Proofs.Tryz.f119 .root (fset f 1 (.int .i64 n_1)) h = s119_0 c k J (f 0) n_1 h := by kernel_rfl
theorem w119 (hc : zqco c) {n : Nat} {a : List AV} (hg : f119 (r119 c k n) 0 (finit a) h) : zqs 119 a h k :=
 zqw hc q119 Go.Proofs.Tryz.func119 rfl (by kernel_rfl) (by kernel_rfl) k u119 (fun n => f119 (r119 c k n)) (fun L _ _ hl => match L, hl with
  | 0, hl => zqnI hl fun _ hl => hl
  | _ + 1, hl => hl) (fun n => ⟨
  fun f h hl => by
    refine zqrI 1 hl fun _ hl => ?_; exact Eq.mpr (e119_0 ..) hl,
  trivial⟩) rfl hg

theorem e120_0 (J : J120) (n_1 : Int) (n_2 : Int) : zqe c k q120 u120 (f120 J) d120 Go.Proofs.Tryz.f120 .root (fset (fset f 1 (.int .i64 n_1)) 2 (.int .i64 n_2)) h = s120_0 c k J (f 0) n_1 n_2 h := by kernel_rfl
theorem e120_1 (J : J120) (n_1 : Int) (n_2 : Int) (n_6 : Int) : zqe c k q120 u120 (f120 J) d120 Go.Proofs.Tryz.f120 (.l (.r .root)) (fset (fset (fset f 1 (.int .i64 n_1)) 2 (.int .i64 n_2)) 6 (.int .i64 n_6)) h = s120_1 c k J (f 0) n_1 n_2 n_6 h := by kernel_rfl
theorem e120_2 (J : J120) (n_1 : Int) (n_2 : Int) (n_6 : Int) (n_7 : Int) : zqe c k q120 u120 (f120 J) d120 Go.Proofs.Tryz.f120 (.l (.r (.l (.l (.r (.l (.l (.r .root)))))))) (fset (fset (fset (fset f 1 (.int .i64 n_1)) 2 (.int .i64 n_2)) 6 (.int .i64 n_6)) 7 (.int .i64 n_7)) h = s120_2 c k J (f 0) n_1 n_2 n_6 n_7 h := by kernel_rfl
theorem w120 (hc : zqco c) {n : Nat} {a : List AV} (hg : f120 (r120 c k n) 0 (finit a) h) : zqs 120 a h k :=
 zqw hc q120 Go.Proofs.Tryz.func120 rfl (by kernel_rfl) (by kernel_rfl) k u120 (fun n => f120 (r120 c k n)) (fun L _ _ hl => match L, hl with
  | 0, hl => zqnI hl fun _ hl => zqnI hl fun _ hl => hl
  | 1, hl => zqnI hl fun _ hl => zqnI hl fun _ hl => zqnI hl fun _ hl => hl
  | 2, hl => zqnI hl fun _ hl => zqnI hl fun _ hl => zqnI hl fun _ hl => zqnI hl fun _ hl => hl
  | _ + 3, hl => hl) (fun n => ⟨
  fun f h hl => by
    refine zqrI 1 hl fun _ hl => ?_; refine zqrI 2 hl fun _ hl => ?_; exact Eq.mpr (e120_0 ..) hl,
  fun f h hl => by
    refine zqrI 1 hl fun _ hl => ?_; refine zqrI 2 hl fun _ hl => ?_; refine zqrI 6 hl fun _ hl => ?_; exact Eq.mpr (e120_1 ..) hl,
  fun f h hl => by
    refine zqrI 1 hl fun _ hl => ?_; refine zqrI 2 hl fun _ hl => ?_; refine zqrI 6 hl fun _ hl => ?_; refine zqrI 7 hl fun _ hl => ?_; exact Eq.mpr (e120_2 ..) hl,
  trivial⟩) rfl hg

theorem w125 (hc : zqco c) {m : Nat} {a : List AV} (hg : runJ env c q125 u125 d125 (retA env Go.Proofs.Tryz.f125.results.toList k) m 0 (finit a) h) : zqs 125 a h k := fnI_ok mixed envOk hc q125 Go.Proofs.Tryz.func125 rfl (by kernel_rfl) (by kernel_rfl) (by kernel_rfl) (by simp [u125]) hg
theorem e131_0 (J : J131) (n_0 : Int) : zqe c k q131 u131 (f131 J) d131 Go.Proofs.Tryz.f131 .root (fset f 0 (.int .u8 n_0)) h = s131_0 c k J n_0 h := by kernel_rfl
theorem w131 (hc : zqco c) {n : Nat} {a : List AV} (hg : f131 (r131 c k n) 0 (finit a) h) : zqs 131 a h k :=
 zqw hc q131 Go.Proofs.Tryz.func131 rfl (by kernel_rfl) (by kernel_rfl) k u131 (fun n => f131 (r131 c k n)) (fun L _ _ hl => match L, hl with
  | 0, hl => zqnI hl fun _ hl => hl
  | _ + 1, hl => hl) (fun n => ⟨
  fun f h hl => by
    refine zqrI 0 hl fun _ hl => ?_; exact Eq.mpr (e131_0 ..) hl,
  trivial⟩) rfl hg

theorem e132_0 (J : J132) : zqe c k q132 u132 (f132 J) d132 Go.Proofs.Tryz.f132 .root f h = s132_0 c k J (f 0) h := by kernel_rfl
theorem e132_1 (J : J132) : zqe c k q132 u132 (f132 J) d132 Go.Proofs.Tryz.f132 (.l (.l (.l (.r (.l (.l (.r (.r .root)))))))) f h = s132_1 c k J (f 0) h := by kernel_rfl
theorem e132_2 (J : J132) (n_4 : Int) : zqe c k q132 u132 (f132 J) d132 Go.Proofs.Tryz.f132 (.l (.r (.l (.r (.r (.r .root)))))) (fset f 4 (.int .i64 n_4)) h = s132_2 c k J (f 0) n_4 h := by kernel_rfl
theorem w132 (hc : zqco c) {n : Nat} {a : List AV} (hg : f132 (r132 c k n) 0 (finit a) h) : zqs 132 a h k :=
 zqw hc q132 Go.Proofs.Tryz.func132 rfl (by kernel_rfl) (by kernel_rfl) k u132 (fun n => f132 (r132 c k n)) (fun L _ _ hl => match L, hl with
  | 0, hl => hl
  | 1, hl => hl
  | 2, hl => zqnI hl fun _ hl => hl
  | _ + 3, hl => hl) (fun n => ⟨
  fun f h hl => Eq.mpr (e132_0 ..) hl,
  fun f h hl => Eq.mpr (e132_1 ..) hl,
  fun f h hl => by
    refine zqrI 4 hl fun _ hl => ?_; exact Eq.mpr (e132_2 ..) hl,
  trivial⟩) rfl hg

theorem e135_0 (J : J135) (l_1 : Nat) (c_1 : Nat) : zqe c k q135 u135 (f135 J) d135 Go.Proofs.Tryz.f135 .root (fset f 1 (.str l_1 c_1)) h = s135_0 c k J (f 0) l_1 c_1 h := by kernel_rfl
theorem e135_1 (J : J135) (l_1 : Nat) (c_1 : Nat) (n_6 : Int) (n_7 : Int) (n_8 : Int) : zqe c k q135 u135 (f135 J) d135 Go.Proofs.Tryz.f135 (.l (.l (.r (.r (.r .root))))) (fset (fset (fset (fset f 1 (.str l_1 c_1)) 6 (.int .i64 n_6)) 7 (.int .i64 n_7)) 8 (.int .i64 n_8)) h = s135_1 c k J (f 0) l_1 c_1 n_6 n_7 n_8 h := by kernel_rfl
theorem w135 (hc : zqco c) {n : Nat} {a : List AV} (hg : f135 (r135 c k n) 0 (finit a) h) : zqs 135 a h k :=
 zqw hc q135 Go.Proofs.Tryz.func135 rfl (by kernel_rfl) (by kernel_rfl) k u135 (fun n => f135 (r135 c k n)) (fun L _ _ hl => match L, hl with
  | 0, hl => zqnS hl fun _ _ hl => hl
  | 1, hl => zqnS hl fun _ _ hl => zqnI hl fun _ hl => zqnI hl fun _ hl => zqnI hl fun _ hl => hl
  | _ + 2, hl => hl) (fun n => ⟨
  fun f h hl => by
    refine zqrS 1 hl fun _ _ hl => ?_; exact Eq.mpr (e135_0 ..) hl,
  fun f h hl => by
    refine zqrS 1 hl fun _ _ hl => ?_; refine zqrI 6 hl fun _ hl => ?_; refine zqrI 7 hl fun _ hl => ?_; refine zqrI 8 hl fun _ hl => ?_; exact Eq.mpr (e135_1 ..) hl,
  trivial⟩) rfl hg

theorem w137 (hc : zqco c) {m : Nat} {a : List AV} (hg : runJ env c q137 u137 d137 (retA env Go.Proofs.Tryz.f137.results.toList k) m 0 (finit a) h) : zqs 137 a h k := fnI_ok mixed envOk hc q137 Go.Proofs.Tryz.func137 rfl (by kernel_rfl) (by kernel_rfl) (by kernel_rfl) (by simp [u137]) hg
theorem e143_0 (J : J143) (n_1 : Int) (b_2 : Bool) : zqe c k q143 u143 (f143 J) d143 Go.Proofs.Tryz.f143 .root (fset (fset f 1 (.int .i64 n_1)) 2 (.bool b_2)) h = s143_0 c k J (f 0) n_1 b_2 h := by kernel_rfl
theorem w143 (hc : zqco c) {n : Nat} {a : List AV} (hg : f143 (r143 c k n) 0 (finit a) h) : zqs 143 a h k :=
 zqw hc q143 Go.Proofs.Tryz.func143 rfl (by kernel_rfl) (by kernel_rfl) k u143 (fun n => f143 (r143 c k n)) (fun L _ _ hl => match L, hl with
  | 0, hl => zqnI hl fun _ hl => zqnB hl fun _ hl => hl
  | _ + 1, hl => hl) (fun n => ⟨
  fun f h hl => by
    refine zqrI 1 hl fun _ hl => ?_; refine zqrB 2 hl fun _ hl => ?_; exact Eq.mpr (e143_0 ..) hl,
  trivial⟩) rfl hg

theorem w144 (hc : zqco c) {m : Nat} {a : List AV} (hg : runJ env c q144 u144 d144 (retA env Go.Proofs.Tryz.f144.results.toList k) m 0 (finit a) h) : zqs 144 a h k := fnI_ok mixed envOk hc q144 Go.Proofs.Tryz.func144 rfl (by kernel_rfl) (by kernel_rfl) (by kernel_rfl) (by simp [u144]) hg
theorem e152_0 (J : J152) : zqe c k q152 u152 (f152 J) d152 Go.Proofs.Tryz.f152 .root f h = s152_0 c k J (f 0) h := by kernel_rfl
theorem e152_1 (J : J152) (n_3 : Int) (n_10 : Int) (n_11 : Int) : zqe c k q152 u152 (f152 J) d152 Go.Proofs.Tryz.f152 (.l (.r (.l (.r (.r .root))))) (fset (fset (fset f 3 (.int .i64 n_3)) 10 (.int .i64 n_10)) 11 (.int .i64 n_11)) h = s152_1 c k J (f 0) n_3 (f 9) n_10 n_11 h := by kernel_rfl
theorem e152_2 (J : J152) (n_26 : Int) (n_27 : Int) : zqe c k q152 u152 (f152 J) d152 Go.Proofs.Tryz.f152 (.l (.r (.l (.r (.r (.r (.r .root))))))) (fset (fset f 26 (.int .i64 n_26)) 27 (.int .i64 n_27)) h = s152_2 c k J (f 6) (f 25) n_26 n_27 h := by kernel_rfl
theorem w152 (hc : zqco c) {n : Nat} {a : List AV} (hg : f152 (r152 c k n) 0 (finit a) h) : zqs 152 a h k :=
 zqw hc q152 Go.Proofs.Tryz.func152 rfl (by kernel_rfl) (by kernel_rfl) k u152 (fun n => f152 (r152 c k n)) (fun L _ _ hl => match L, hl with
  | 0, hl => hl
  | 1, hl => zqnI hl fun _ hl => zqnI hl fun _ hl => zqnI hl fun _ hl => hl
  | 2, hl => zqnI hl fun _ hl => zqnI hl fun _ hl => hl
  | _ + 3, hl => hl) (fun n => ⟨
  fun f h hl => Eq.mpr (e152_0 ..) hl,
  fun f h hl => by
    refine zqrI 3 hl fun _ hl => ?_; refine zqrI 10 hl fun _ hl => ?_; refine zqrI 11 hl fun _ hl => ?_; exact Eq.mpr (e152_1 ..) hl,
  fun f h hl => by
    refine zqrI 26 hl fun _ hl => ?_; refine zqrI 27 hl fun _ hl => ?_; exact Eq.mpr (e152_2 ..) hl,
  trivial⟩) rfl hg

theorem e154_0 (J : J154) (l_0 : Nat) (c_0 : Nat) (l_1 : Nat) (c_1 : Nat) : zqe c k q154 u154 (f154 J) d154 Go.Proofs.Tryz.f154 .root (fset (fset f 0 (.str l_0 c_0)) 1 (.str l_1 c_1)) h = s154_0 c k J l_0 c_0 l_1 c_1 h := by kernel_rfl
theorem w154 (hc : zqco c) {n : Nat} {a : List AV} (hg : f154 (r154 c k n) 0 (finit a) h) : zqs 154 a h k :=
 zqw hc q154 Go.Proofs.Tryz.func154 rfl (by kernel_rfl) (by kernel_rfl) k u154 (fun n => f154 (r154 c k n)) (fun L _ _ hl => match L, hl with
  | 0, hl => zqnS hl fun _ _ hl => zqnS hl fun _ _ hl => hl
  | _ + 1, hl => hl) (fun n => ⟨
  fun f h hl => by
    refine zqrS 0 hl fun _ _ hl => ?_; refine zqrS 1 hl fun _ _ hl => ?_; exact Eq.mpr (e154_0 ..) hl,
  trivial⟩) rfl hg

theorem e159_0 (J : J159) : zqe c k q159 u159 (f159 J) d159 Go.Proofs.Tryz.f159 .root f h = s159_0 c k J (f 0) (f 1) h := by kernel_rfl
theorem w159 (hc : zqco c) {n : Nat} {a : List AV} (hg : f159 (r159 c k n) 0 (finit a) h) : zqs 159 a h k :=
 zqw hc q159 Go.Proofs.Tryz.func159 rfl (by kernel_rfl) (by kernel_rfl) k u159 (fun n => f159 (r159 c k n)) (fun L _ _ hl => match L, hl with
  | 0, hl => hl
  | _ + 1, hl => hl) (fun n => ⟨
  fun f h hl => Eq.mpr (e159_0 ..) hl,
  trivial⟩) rfl hg

theorem e160_0 (J : J160) : zqe c k q160 u160 (f160 J) d160 Go.Proofs.Tryz.f160 .root f h = s160_0 c k J (f 0) h := by kernel_rfl
theorem e160_1 (J : J160) (n_8 : Int) (n_9 : Int) : zqe c k q160 u160 (f160 J) d160 Go.Proofs.Tryz.f160 (.l (.r (.r .root))) (fset (fset f 8 (.int .i64 n_8)) 9 (.int .i64 n_9)) h = s160_1 c k J (f 0) (f 7) n_8 n_9 h := by kernel_rfl
theorem w160 (hc : zqco c) {n : Nat} {a : List AV} (hg : f160 (r160 c k n) 0 (finit a) h) : zqs 160 a h k :=
 zqw hc q160 Go.Proofs.Tryz.func160 rfl (by kernel_rfl) (by kernel_rfl) k u160 (fun n => f160 (r160 c k n)) (fun L _ _ hl => match L, hl with
  | 0, hl => hl
  | 1, hl => zqnI hl fun _ hl => zqnI hl fun _ hl => hl
  | _ + 2, hl => hl) (fun n => ⟨
  fun f h hl => Eq.mpr (e160_0 ..) hl,
  fun f h hl => by
    refine zqrI 8 hl fun _ hl => ?_; refine zqrI 9 hl fun _ hl => ?_; exact Eq.mpr (e160_1 ..) hl,
  trivial⟩) rfl hg

theorem w162 (hc : zqco c) {m : Nat} {a : List AV} (hg : runJ env c q162 u162 d162 (retA env Go.Proofs.Tryz.f162.results.toList k) m 0 (finit a) h) : zqs 162 a h k := fnI_ok mixed envOk hc q162 Go.Proofs.Tryz.func162 rfl (by kernel_rfl) (by kernel_rfl) (by kernel_rfl) (by simp [u162]) hg
theorem w167 (hc : zqco c) {m : Nat} {a : List AV} (hg : runJ env c q167 u167 d167 (retA env Go.Proofs.Tryz.f167.results.toList k) m 0 (finit a) h) : zqs 167 a h k := fnI_ok mixed envOk hc q167 Go.Proofs.Tryz.func167 rfl (by kernel_rfl) (by kernel_rfl) (by kernel_rfl) (by simp [u167]) hg
theorem w173 (hc : zqco c) {m : Nat} {a : List AV} (hg : runJ env c q173 u173 d173 (retA env Go.Proofs.Tryz.f173.results.toList k) m 0 (finit a) h) : zqs 173 a h k := fnI_ok mixed envOk hc q173 Go.Proofs.Tryz.func173 rfl (by kernel_rfl) (by kernel_rfl) (by kernel_rfl) (by simp [u173]) hg
theorem e178_0 (J : J178) : zqe c k q178 u178 (f178 J) d178 Go.Proofs.Tryz.f178 .root f h = s178_0 c k J (f 0) h := by kernel_rfl
theorem e178_1 (J : J178) (n_2 : Int) (n_3 : Int) : zqe c k q178 u178 (f178 J) d178 Go.Proofs.Tryz.f178 (.r (.r (.l (.r (.r (.l (.r (.r (.r .root))))))))) (fset (fset f 2 (.int .i64 n_2)) 3 (.int .i64 n_3)) h = s178_1 c k J n_2 n_3 h := by kernel_rfl
theorem w178 (hc : zqco c) {n : Nat} {a : List AV} (hg : f178 (r178 c k n) 0 (finit a) h) : zqs 178 a h k :=
 zqw hc q178 Go.Proofs.Tryz.func178 rfl (by kernel_rfl) (by kernel_rfl) k u178 (fun n => f178 (r178 c k n)) (fun L _ _ hl => match L, hl with
  | 0, hl => hl
  | 1, hl => zqnI hl fun _ hl => zqnI hl fun _ hl => hl
  | _ + 2, hl => hl) (fun n => ⟨
  fun f h hl => Eq.mpr (e178_0 ..) hl,
  fun f h hl => by
    refine zqrI 2 hl fun _ hl => ?_; refine zqrI 3 hl fun _ hl => ?_; exact Eq.mpr (e178_1 ..) hl,
  trivial⟩) rfl hg

theorem w186 (hc : zqco c) {m : Nat} {a : List AV} (hg : runJ env c q186 u186 d186 (retA env Go.Proofs.Tryz.f186.results.toList k) m 0 (finit a) h) : zqs 186 a h k := fnI_ok mixed envOk hc q186 Go.Proofs.Tryz.func186 rfl (by kernel_rfl) (by kernel_rfl) (by kernel_rfl) (by simp [u186]) hg
theorem e189_0 (J : J189) : zqe c k q189 u189 (f189 J) d189 Go.Proofs.Tryz.f189 .root f h = s189_0 c k J (f 0) h := by kernel_rfl
theorem e189_1 (J : J189) (n_17 : Int) (n_18 : Int) : zqe c k q189 u189 (f189 J) d189 Go.Proofs.Tryz.f189 (.l (.r (.l (.r (.r .root))))) (fset (fset f 17 (.int .i64 n_17)) 18 (.int .i64 n_18)) h = s189_1 c k J (f 1) (f 2) (f 3) (f 16) n_17 n_18 h := by kernel_rfl
theorem w189 (hc : zqco c) {n : Nat} {a : List AV} (hg : f189 (r189 c k n) 0 (finit a) h) : zqs 189 a h k :=
 zqw hc q189 Go.Proofs.Tryz.func189 rfl (by kernel_rfl) (by kernel_rfl) k u189 (fun n => f189 (r189 c k n)) (fun L _ _ hl => match L, hl with
  | 0, hl => hl
  | 1, hl => zqnI hl fun _ hl => zqnI hl fun _ hl => hl
  | _ + 2, hl => hl) (fun n => ⟨
  fun f h hl => Eq.mpr (e189_0 ..) hl,
  fun f h hl => by
    refine zqrI 17 hl fun _ hl => ?_; refine zqrI 18 hl fun _ hl => ?_; exact Eq.mpr (e189_1 ..) hl,
  trivial⟩) rfl hg

theorem e194_0 (J : J194) (n_1 : Int) : zqe c k q194 u194 (f194 J) d194 Go.Proofs.Tryz.f194 .root (fset f 1 (.int .i64 n_1)) h = s194_0 c k J (f 0) n_1 h := by kernel_rfl
theorem w194 (hc : zqco c) {n : Nat} {a : List AV} (hg : f194 (r194 c k n) 0 (finit a) h) : zqs 194 a h k :=
 zqw hc q194 Go.Proofs.Tryz.func194 rfl (by kernel_rfl) (by kernel_rfl) k u194 (fun n => f194 (r194 c k n)) (fun L _ _ hl => match L, hl with
  | 0, hl => zqnI hl fun _ hl => hl
  | _ + 1, hl => hl) (fun n => ⟨
  fun f h hl => by
    refine zqrI 1 hl fun _ hl => ?_; exact Eq.mpr (e194_0 ..) hl,
  trivial⟩) rfl hg

theorem e201_0 (J : J201) (l_0 : Nat) (c_0 : Nat) (n_1 : Int) : zqe c k q201 u201 (f201 J) d201 Go.Proofs.Tryz.f201 .root (fset (fset f 0 (.str l_0 c_0)) 1 (.int .u8 n_1)) h = s201_0 c k J l_0 c_0 n_1 h := by kernel_rfl
theorem w201 (hc : zqco c) {n : Nat} {a : List AV} (hg : f201 (r201 c k n) 0 (finit a) h) : zqs 201 a h k :=
 zqw hc q201 Go.Proofs.Tryz.func201 rfl (by kernel_rfl) (by kernel_rfl) k u201 (fun n => f201 (r201 c k n)) (fun L _ _ hl => match L, hl with
  | 0, hl => zqnS hl fun _ _ hl => zqnI hl fun _ hl => hl
  | _ + 1, hl => hl) (fun n => ⟨
  fun f h hl => by
    refine zqrS 0 hl fun _ _ hl => ?_; refine zqrI 1 hl fun _ hl => ?_; exact Eq.mpr (e201_0 ..) hl,
  trivial⟩) rfl hg

theorem w204 (hc : zqco c) {m : Nat} {a : List AV} (hg : runJ env c q204 u204 d204 (retA env Go.Proofs.Tryz.f204.results.toList k) m 0 (finit a) h) : zqs 204 a h k := fnI_ok mixed envOk hc q204 Go.Proofs.Tryz.func204 rfl (by kernel_rfl) (by kernel_rfl) (by kernel_rfl) (by simp [u204]) hg
theorem w210 (hc : zqco c) {m : Nat} {a : List AV} (hg : runJ env c q210 u210 d210 (retA env Go.Proofs.Tryz.f210.results.toList k) m 0 (finit a) h) : zqs 210 a h k := fnI_ok mixed envOk hc q210 Go.Proofs.Tryz.func210 rfl (by kernel_rfl) (by kernel_rfl) (by kernel_rfl) (by simp [u210]) hg
theorem e213_0 (J : J213) : zqe c k q213 u213 (f213 J) d213 Go.Proofs.Tryz.f213 .root f h = s213_0 c k J (f 0) h := by kernel_rfl
theorem e213_1 (J : J213) (n_88 : Int) (n_89 : Int) : zqe c k q213 u213 (f213 J) d213 Go.Proofs.Tryz.f213 (.l (.r (.l (.r (.r (.r (.r (.r (.r (.r (.r (.r (.r (.r .root)))))))))))))) (fset (fset f 88 (.int .i64 n_88)) 89 (.int .i64 n_89)) h = s213_1 c k J (f 2) (f 4) (f 6) (f 87) n_88 n_89 h := by kernel_rfl
theorem e213_2 (J : J213) : zqe c k q213 u213 (f213 J) d213 Go.Proofs.Tryz.f213 (.r (.r (.r (.r (.r (.r (.r (.r (.r (.r (.r .root))))))))))) f h = s213_2 c k J (f 2) (f 4) (f 6) h := by kernel_rfl
theorem e213_3 (J : J213) (b_7 : Bool) : zqe c k q213 u213 (f213 J) d213 Go.Proofs.Tryz.f213 (.r (.r (.r (.r (.r (.r (.r (.r (.r .root))))))))) (fset f 7 (.bool b_7)) h = s213_3 c k J (f 0) (f 2) (f 4) (f 5) (f 6) b_7 h := by kernel_rfl
theorem e213_4 (J : J213) (b_7 : Bool) (b_59 : Bool) : zqe c k q213 u213 (f213 J) d213 Go.Proofs.Tryz.f213 (.r (.l (.r (.r (.r (.r (.r (.r (.r (.r .root)))))))))) (fset (fset f 7 (.bool b_7)) 59 (.bool b_59)) h = s213_4 c k J (f 0) (f 2) (f 4) (f 5) (f 6) b_7 b_59 h := by kernel_rfl
theorem w213 (hc : zqco c) {n : Nat} {a : List AV} (hg : f213 (r213 c k n) 0 (finit a) h) : zqs 213 a h k :=
 zqw hc q213 Go.Proofs.Tryz.func213 rfl (by kernel_rfl) (by kernel_rfl) k u213 (fun n => f213 (r213 c k n)) (fun L _ _ hl => match L, hl with
  | 0, hl => hl
  | 1, hl => zqnI hl fun _ hl => zqnI hl fun _ hl => hl
  | 2, hl => hl
  | 3, hl => zqnB hl fun _ hl => hl
  | 4, hl => zqnB hl fun _ hl => zqnB hl fun _ hl => hl
  | _ + 5, hl => hl) (fun n => ⟨
  fun f h hl => Eq.mpr (e213_0 ..) hl,
  fun f h hl => by
    refine zqrI 88 hl fun _ hl => ?_; refine zqrI 89 hl fun _ hl => ?_; exact Eq.mpr (e213_1 ..) hl,
  fun f h hl => Eq.mpr (e213_2 ..) hl,
  fun f h hl => by
    refine zqrB 7 hl fun _ hl => ?_; exact Eq.mpr (e213_3 ..) hl,
  fun f h hl => by
    refine zqrB 7 hl fun _ hl => ?_; refine zqrB 59 hl fun _ hl => ?_; exact Eq.mpr (e213_4 ..) hl,
  trivial⟩) rfl hg

theorem e215_0 (J : J215) (l_0 : Nat) (c_0 : Nat) : zqe c k q215 u215 (f215 J) d215 Go.Proofs.Tryz.f215 .root (fset f 0 (.str l_0 c_0)) h = s215_0 c k J l_0 c_0 h := by kernel_rfl
theorem w215 (hc : zqco c) {n : Nat} {a : List AV} (hg : f215 (r215 c k n) 0 (finit a) h) : zqs 215 a h k :=
 zqw hc q215 Go.Proofs.Tryz.func215 rfl (by kernel_rfl) (by kernel_rfl) k u215 (fun n => f215 (r215 c k n)) (fun L _ _ hl => match L, hl with
  | 0, hl => zqnS hl fun _ _ hl => hl
  | _ + 1, hl => hl) (fun n => ⟨
  fun f h hl => by
    refine zqrS 0 hl fun _ _ hl => ?_; exact Eq.mpr (e215_0 ..) hl,
  trivial⟩) rfl hg

theorem w217 (hc : zqco c) {m : Nat} {a : List AV} (hg : runJ env c q217 u217 d217 (retA env Go.Proofs.Tryz.f217.results.toList k) m 0 (finit a) h) : zqs 217 a h k := fnI_ok mixed envOk hc q217 Go.Proofs.Tryz.func217 rfl (by kernel_rfl) (by kernel_rfl) (by kernel_rfl) (by simp [u217]) hg
theorem e218_0 (J : J218) : zqe c k q218 u218 (f218 J) d218 Go.Proofs.Tryz.f218 .root f h = s218_0 c k J (f 0) h := by kernel_rfl
theorem w218 (hc : zqco c) {n : Nat} {a : List AV} (hg : f218 (r218 c k n) 0 (finit a) h) : zqs 218 a h k :=
 zqw hc q218 Go.Proofs.Tryz.func218 rfl (by kernel_rfl) (by kernel_rfl) k u218 (fun n => f218 (r218 c k n)) (fun L _ _ hl => match L, hl with
  | 0, hl => hl
  | _ + 1, hl => hl) (fun n => ⟨
  fun f h hl => Eq.mpr (e218_0 ..) hl,
  trivial⟩) rfl hg

theorem e221_0 (J : J221) : zqe c k q221 u221 (f221 J) d221 Go.Proofs.Tryz.f221 .root f h = s221_0 c k J (f 0) h := by kernel_rfl
theorem e221_1 (J : J221) (n_7 : Int) (n_8 : Int) : zqe c k q221 u221 (f221 J) d221 Go.Proofs.Tryz.f221 (.l (.r (.l (.r .root)))) (fset (fset f 7 (.int .i64 n_7)) 8 (.int .i64 n_8)) h = s221_1 c k J (f 0) (f 6) n_7 n_8 h := by kernel_rfl
theorem w221 (hc : zqco c) {n : Nat} {a : List AV} (hg : f221 (r221 c k n) 0 (finit a) h) : zqs 221 a h k :=
 zqw hc q221 Go.Proofs.Tryz.func221 rfl (by kernel_rfl) (by kernel_rfl) k u221 (fun n => f221 (r221 c k n)) (fun L _ _ hl => match L, hl with
  | 0, hl => hl
  | 1, hl => zqnI hl fun _ hl => zqnI hl fun _ hl => hl
  | _ + 2, hl => hl) (fun n => ⟨
  fun f h hl => Eq.mpr (e221_0 ..) hl,
  fun f h hl => by
    refine zqrI 7 hl fun _ hl => ?_; refine zqrI 8 hl fun _ hl => ?_; exact Eq.mpr (e221_1 ..) hl,
  trivial⟩) rfl hg

theorem w224 (hc : zqco c) {m : Nat} {a : List AV} (hg : runJ env c q224 u224 d224 (retA env Go.Proofs.Tryz.f224.results.toList k) m 0 (finit a) h) : zqs 224 a h k := fnI_ok mixed envOk hc q224 Go.Proofs.Tryz.func224 rfl (by kernel_rfl) (by kernel_rfl) (by kernel_rfl) (by simp [u224]) hg
theorem e227_0 (J : J227) (l_1 : Nat) (c_1 : Nat) : zqe c k q227 u227 (f227 J) d227 Go.Proofs.Tryz.f227 .root (fset f 1 (.str l_1 c_1)) h = s227_0 c k J (f 0) l_1 c_1 h := by kernel_rfl
theorem w227 (hc : zqco c) {n : Nat} {a : List AV} (hg : f227 (r227 c k n) 0 (finit a) h) : zqs 227 a h k :=
 zqw hc q227 Go.Proofs.Tryz.func227 rfl (by kernel_rfl) (by kernel_rfl) k u227 (fun n => f227 (r227 c k n)) (fun L _ _ hl => match L, hl with
  | 0, hl => zqnS hl fun _ _ hl => hl
  | _ + 1, hl => hl) (fun n => ⟨
  fun f h hl => by
    refine zqrS 1 hl fun _ _ hl => ?_; exact Eq.mpr (e227_0 ..) hl,
  trivial⟩) rfl hg

theorem w232 (hc : zqco c) {m : Nat} {a : List AV} (hg : runJ env c q232 u232 d232 (retA env Go.Proofs.Tryz.f232.results.toList k) m 0 (finit a) h) : zqs 232 a h k := fnI_ok mixed envOk hc q232 Go.Proofs.Tryz.func232 rfl (by kernel_rfl) (by kernel_rfl) (by kernel_rfl) (by simp [u232]) hg
theorem e237_0 (J : J237) : zqe c k q237 u237 (f237 J) d237 Go.Proofs.Tryz.f237 .root f h = s237_0 c k J (f 0) h := by kernel_rfl
theorem w237 (hc : zqco c) {n : Nat} {a : List AV} (hg : f237 (r237 c k n) 0 (finit a) h) : zqs 237 a h k :=
 zqw hc q237 Go.Proofs.Tryz.func237 rfl (by kernel_rfl) (by kernel_rfl) k u237 (fun n => f237 (r237 c k n)) (fun L _ _ hl => match L, hl with
  | 0, hl => hl
  | _ + 1, hl => hl) (fun n => ⟨
  fun f h hl => Eq.mpr (e237_0 ..) hl,
  trivial⟩) rfl hg
theorem wd237 (hc : zqco c) {n : Nat} {a : List AV} (hg : f237 (r237 c k n) 0 (finit a) h) : zqsd 237 a h k :=
 zqwd hc q237 Go.Proofs.Tryz.func237 rfl (by kernel_rfl) (by kernel_rfl) k u237 (fun n => f237 (r237 c k n)) (fun L _ _ hl => match L, hl with
  | 0, hl => hl
  | _ + 1, hl => hl) (fun n => ⟨
  fun f h hl => Eq.mpr (e237_0 ..) hl,
  trivial⟩) rfl hg

theorem w241 (hc : zqco c) {m : Nat} {a : List AV} (hg : runJ env c q241 u241 d241 (retA env Go.Proofs.Tryz.f241.results.toList k) m 0 (finit a) h) : zqs 241 a h k := fnI_ok mixed envOk hc q241 Go.Proofs.Tryz.func241 rfl (by kernel_rfl) (by kernel_rfl) (by kernel_rfl) (by simp [u241]) hg
theorem w245 (hc : zqco c) {m : Nat} {a : List AV} (hg : runJ env c q245 u245 d245 (retA env Go.Proofs.Tryz.f245.results.toList k) m 0 (finit a) h) : zqs 245 a h k := fnI_ok mixed envOk hc q245 Go.Proofs.Tryz.func245 rfl (by kernel_rfl) (by kernel_rfl) (by kernel_rfl) (by simp [u245]) hg
theorem w252 (hc : zqco c) {m : Nat} {a : List AV} (hg : runJ env c q252 u252 d252 (retA env Go.Proofs.Tryz.f252.results.toList k) m 0 (finit a) h) : zqs 252 a h k := fnI_ok mixed envOk hc q252 Go.Proofs.Tryz.func252 rfl (by kernel_rfl) (by kernel_rfl) (by kernel_rfl) (by simp [u252]) hg
theorem w258 (hc : zqco c) {m : Nat} {a : List AV} (hg : runJ env c q258 u258 d258 (retA env Go.Proofs.Tryz.f258.results.toList k) m 0 (finit a) h) : zqs 258 a h k := fnI_ok mixed envOk hc q258 Go.Proofs.Tryz.func258 rfl (by kernel_rfl) (by kernel_rfl) (by kernel_rfl) (by simp [u258]) hg
theorem e262_0 (J : J262) : zqe c k q262 u262 (f262 J) d262 Go.Proofs.Tryz.f262 .root f h = s262_0 c k J (f 0) h := by kernel_rfl
theorem w262 (hc : zqco c) {n : Nat} {a : List AV} (hg : f262 (r262 c k n) 0 (finit a) h) : zqs 262 a h k :=
 zqw hc q262 Go.Proofs.Tryz.func262 rfl (by kernel_rfl) (by kernel_rfl) k u262 (fun n => f262 (r262 c k n)) (fun L _ _ hl => match L, hl with
  | 0, hl => hl
  | _ + 1, hl => hl) (fun n => ⟨
  fun f h hl => Eq.mpr (e262_0 ..) hl,
  trivial⟩) rfl hg

theorem e265_0 (J : J265) (b_0 : Bool) : zqe c k q265 u265 (f265 J) d265 Go.Proofs.Tryz.f265 .root (fset f 0 (.bool b_0)) h = s265_0 c k J b_0 h := by kernel_rfl
theorem w265 (hc : zqco c) {n : Nat} {a : List AV} (hg : f265 (r265 c k n) 0 (finit a) h) : zqs 265 a h k :=
 zqw hc q265 Go.Proofs.Tryz.func265 rfl (by kernel_rfl) (by kernel_rfl) k u265 (fun n => f265 (r265 c k n)) (fun L _ _ hl => match L, hl with
  | 0, hl => zqnB hl fun _ hl => hl
  | _ + 1, hl => hl) (fun n => ⟨
  fun f h hl => by
    refine zqrB 0 hl fun _ hl => ?_; exact Eq.mpr (e265_0 ..) hl,
  trivial⟩) rfl hg

theorem w268 (hc : zqco c) {m : Nat} {a : List AV} (hg : runJ env c q268 u268 d268 (retA env Go.Proofs.Tryz.f268.results.toList k) m 0 (finit a) h) : zqs 268 a h k := fnI_ok mixed envOk hc q268 Go.Proofs.Tryz.func268 rfl (by kernel_rfl) (by kernel_rfl) (by kernel_rfl) (by simp [u268]) hg
theorem w273 (hc : zqco c) {m : Nat} {a : List AV} (hg : runJ env c q273 u273 d273 (retA env Go.Proofs.Tryz.f273.results.toList k) m 0 (finit a) h) : zqs 273 a h k := fnI_ok mixed envOk hc q273 Go.Proofs.Tryz.func273 rfl (by kernel_rfl) (by kernel_rfl) (by kernel_rfl) (by simp [u273]) hg
theorem w278 (hc : zqco c) {m : Nat} {a : List AV} (hg : runJ env c q278 u278 d278 (retA env Go.Proofs.Tryz.f278.results.toList k) m 0 (finit a) h) : zqs 278 a h k := fnI_ok mixed envOk hc q278 Go.Proofs.Tryz.func278 rfl (by kernel_rfl) (by kernel_rfl) (by kernel_rfl) (by simp [u278]) hg
theorem w282 (hc : zqco c) {m : Nat} {a : List AV} (hg : runJ env c q282 u282 d282 (retA env Go.Proofs.Tryz.f282.results.toList k) m 0 (finit a) h) : zqs 282 a h k := fnI_ok mixed envOk hc q282 Go.Proofs.Tryz.func282 rfl (by kernel_rfl) (by kernel_rfl) (by kernel_rfl) (by simp [u282]) hg
theorem w293 (hc : zqco c) {m : Nat} {a : List AV} (hg : runJ env c q293 u293 d293 (retA env Go.Proofs.Tryz.f293.results.toList k) m 0 (finit a) h) : zqs 293 a h k := fnI_ok mixed envOk hc q293 Go.Proofs.Tryz.func293 rfl (by kernel_rfl) (by kernel_rfl) (by kernel_rfl) (by simp [u293]) hg
theorem w297 (hc : zqco c) {m : Nat} {a : List AV} (hg : runJ env c q297 u297 d297 (retA env Go.Proofs.Tryz.f297.results.toList k) m 0 (finit a) h) : zqs 297 a h k := fnI_ok mixed envOk hc q297 Go.Proofs.Tryz.func297 rfl (by kernel_rfl) (by kernel_rfl) (by kernel_rfl) (by simp [u297]) hg
theorem w301 (hc : zqco c) {m : Nat} {a : List AV} (hg : runJ env c q301 u301 d301 (retA env Go.Proofs.Tryz.f301.results.toList k) m 0 (finit a) h) : zqs 301 a h k := fnI_ok mixed envOk hc q301 Go.Proofs.Tryz.func301 rfl (by kernel_rfl) (by kernel_rfl) (by kernel_rfl) (by simp [u301]) hg
theorem w305 (hc : zqco c) {m : Nat} {a : List AV} (hg : runJ env c q305 u305 d305 (retA env Go.Proofs.Tryz.f305.results.toList k) m 0 (finit a) h) : zqs 305 a h k := fnI_ok mixed envOk hc q305 Go.Proofs.Tryz.func305 rfl (by kernel_rfl) (by kernel_rfl) (by kernel_rfl) (by simp [u305]) hg
theorem w309 (hc : zqco c) {m : Nat} {a : List AV} (hg : runJ env c q309 u309 d309 (retA env Go.Proofs.Tryz.f309.results.toList k) m 0 (finit a) h) : zqs 309 a h k := fnI_ok mixed envOk hc q309 Go.Proofs.Tryz.func309 rfl (by kernel_rfl) (by kernel_rfl) (by kernel_rfl) (by simp [u309]) hg
theorem w313 (hc : zqco c) {m : Nat} {a : List AV} (hg : runJ env c q313 u313 d313 (retA env Go.Proofs.Tryz.f313.results.toList k) m 0 (finit a) h) : zqs 313 a h k := fnI_ok mixed envOk hc q313 Go.Proofs.Tryz.func313 rfl (by kernel_rfl) (by kernel_rfl) (by kernel_rfl) (by simp [u313]) hg
theorem w326 (hc : zqco c) {m : Nat} {a : List AV} (hg : runJ env c q326 u326 d326 (retA env Go.Proofs.Tryz.f326.results.toList k) m 0 (finit a) h) : zqs 326 a h k := fnI_ok mixed envOk hc q326 Go.Proofs.Tryz.func326 rfl (by kernel_rfl) (by kernel_rfl) (by kernel_rfl) (by simp [u326]) hg
theorem w330 (hc : zqco c) {m : Nat} {a : List AV} (hg : runJ env c q330 u330 d330 (retA env Go.Proofs.Tryz.f330.results.toList k) m 0 (finit a) h) : zqs 330 a h k := fnI_ok mixed envOk hc q330 Go.Proofs.Tryz.func330 rfl (by kernel_rfl) (by kernel_rfl) (by kernel_rfl) (by simp [u330]) hg
theorem w334 (hc : zqco c) {m : Nat} {a : List AV} (hg : runJ env c q334 u334 d334 (retA env Go.Proofs.Tryz.f334.results.toList k) m 0 (finit a) h) : zqs 334 a h k := fnI_ok mixed envOk hc q334 Go.Proofs.Tryz.func334 rfl (by kernel_rfl) (by kernel_rfl) (by kernel_rfl) (by simp [u334]) hg
theorem w338 (hc : zqco c) {m : Nat} {a : List AV} (hg : runJ env c q338 u338 d338 (retA env Go.Proofs.Tryz.f338.results.toList k) m 0 (finit a) h) : zqs 338 a h k := fnI_ok mixed envOk hc q338 Go.Proofs.Tryz.func338 rfl (by kernel_rfl) (by kernel_rfl) (by kernel_rfl) (by simp [u338]) hg
theorem w342 (hc : zqco c) {m : Nat} {a : List AV} (hg : runJ env c q342 u342 d342 (retA env Go.Proofs.Tryz.f342.results.toList k) m 0 (finit a) h) : zqs 342 a h k := fnI_ok mixed envOk hc q342 Go.Proofs.Tryz.func342 rfl (by kernel_rfl) (by kernel_rfl) (by kernel_rfl) (by simp [u342]) hg
theorem w349 (hc : zqco c) {m : Nat} {a : List AV} (hg : runJ env c q349 u349 d349 (retA env Go.Proofs.Tryz.f349.results.toList k) m 0 (finit a) h) : zqs 349 a h k := fnI_ok mixed envOk hc q349 Go.Proofs.Tryz.func349 rfl (by kernel_rfl) (by kernel_rfl) (by kernel_rfl) (by simp [u349]) hg
theorem w353 (hc : zqco c) {m : Nat} {a : List AV} (hg : runJ env c q353 u353 d353 (retA env Go.Proofs.Tryz.f353.results.toList k) m 0 (finit a) h) : zqs 353 a h k := fnI_ok mixed envOk hc q353 Go.Proofs.Tryz.func353 rfl (by kernel_rfl) (by kernel_rfl) (by kernel_rfl) (by simp [u353]) hg
theorem w357 (hc : zqco c) {m : Nat} {a : List AV} (hg : runJ env c q357 u357 d357 (retA env Go.Proofs.Tryz.f357.results.toList k) m 0 (finit a) h) : zqs 357 a h k := fnI_ok mixed envOk hc q357 Go.Proofs.Tryz.func357 rfl (by kernel_rfl) (by kernel_rfl) (by kernel_rfl) (by simp [u357]) hg
theorem w363 (hc : zqco c) {m : Nat} {a : List AV} (hg : runJ env c q363 u363 d363 (retA env Go.Proofs.Tryz.f363.results.toList k) m 0 (finit a) h) : zqs 363 a h k := fnI_ok mixed envOk hc q363 Go.Proofs.Tryz.func363 rfl (by kernel_rfl) (by kernel_rfl) (by kernel_rfl) (by simp [u363]) hg
theorem w369 (hc : zqco c) {m : Nat} {a : List AV} (hg : runJ env c q369 u369 d369 (retA env Go.Proofs.Tryz.f369.results.toList k) m 0 (finit a) h) : zqs 369 a h k := fnI_ok mixed envOk hc q369 Go.Proofs.Tryz.func369 rfl (by kernel_rfl) (by kernel_rfl) (by kernel_rfl) (by simp [u369]) hg
end Go.Den
