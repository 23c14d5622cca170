/-
  A part of the proof: the pieces are what the program does.
-/
import Derived.Test.YtbjfkibkjjmdnaaGreatDoorRunA1
import Derived.Test.YtbjfkibkjjmdnaaGreatDoorRunA2
import Derived.KernelRfl
namespace Go.Den
set_option maxRecDepth 100000
variable {c : Caller Prop FT} {k : KV} {f : FT} {h : H}
theorem e22_0 (J : J22) (l_1 : Nat) (c_1 : Nat) (l_2 : Nat) (c_2 : Nat) : zqe c k q22 u22 (f22 J) d22 Go.Proofs.Tryz.f22 .root (fset (fset f 1 (.str l_1 c_1)) 2 (.str l_2 c_2)) h = s22_0 c k J (f 0) l_1 c_1 l_2 c_2 h := by kernel_rfl
theorem w22 (hc : zqco c) {n : Nat} {a : List AV} (hg : f22 (r22 c k n) 0 (finit a) h) : zqs 22 a h k :=
 zqw hc q22 Go.Proofs.Tryz.func22 rfl (by kernel_rfl) (by kernel_rfl) k u22 (fun n => f22 (r22 c k n)) (fun L _ _ hl => match L, hl with
  | 0, hl => zqnS hl fun _ _ hl => zqnS hl fun _ _ hl => hl
  | _ + 1, hl => hl) (fun n => ⟨
  fun f h hl => by
    refine zqrS 1 hl fun _ _ hl => ?_; refine zqrS 2 hl fun _ _ hl => ?_; exact Eq.mpr (e22_0 ..) hl,
  trivial⟩) rfl hg

theorem e24_0 (J : J24) (l_1 : Nat) (c_1 : Nat) : zqe c k q24 u24 (f24 J) d24 Go.Proofs.Tryz.f24 .root (fset f 1 (.str l_1 c_1)) h = s24_0 c k J (f 0) l_1 c_1 (f 2) (f 3) h := by kernel_rfl
theorem w24 (hc : zqco c) {n : Nat} {a : List AV} (hg : f24 (r24 c k n) 0 (finit a) h) : zqs 24 a h k :=
 zqw hc q24 Go.Proofs.Tryz.func24 rfl (by kernel_rfl) (by kernel_rfl) k u24 (fun n => f24 (r24 c k n)) (fun L _ _ hl => match L, hl with
  | 0, hl => zqnS hl fun _ _ hl => hl
  | _ + 1, hl => hl) (fun n => ⟨
  fun f h hl => by
    refine zqrS 1 hl fun _ _ hl => ?_; exact Eq.mpr (e24_0 ..) hl,
  trivial⟩) rfl hg

theorem e25_0 (J : J25) (l_0 : Nat) (c_0 : Nat) (l_1 : Nat) (c_1 : Nat) : zqe c k q25 u25 (f25 J) d25 Go.Proofs.Tryz.f25 .root (fset (fset f 0 (.str l_0 c_0)) 1 (.str l_1 c_1)) h = s25_0 c k J l_0 c_0 l_1 c_1 h := by kernel_rfl
theorem e25_1 (J : J25) (l_1 : Nat) (c_1 : Nat) (n_15 : Int) (n_16 : Int) : zqe c k q25 u25 (f25 J) d25 Go.Proofs.Tryz.f25 (.l (.r (.l (.r (.r .root))))) (fset (fset (fset f 1 (.str l_1 c_1)) 15 (.int .i64 n_15)) 16 (.int .i64 n_16)) h = s25_1 c k J l_1 c_1 (f 4) n_15 n_16 h := by kernel_rfl
theorem w25 (hc : zqco c) {n : Nat} {a : List AV} (hg : f25 (r25 c k n) 0 (finit a) h) : zqs 25 a h k :=
 zqw hc q25 Go.Proofs.Tryz.func25 rfl (by kernel_rfl) (by kernel_rfl) k u25 (fun n => f25 (r25 c k n)) (fun L _ _ hl => match L, hl with
  | 0, hl => zqnS hl fun _ _ hl => zqnS hl fun _ _ hl => hl
  | 1, hl => zqnS hl fun _ _ hl => zqnI hl fun _ hl => zqnI hl fun _ hl => hl
  | _ + 2, hl => hl) (fun n => ⟨
  fun f h hl => by
    refine zqrS 0 hl fun _ _ hl => ?_; refine zqrS 1 hl fun _ _ hl => ?_; exact Eq.mpr (e25_0 ..) hl,
  fun f h hl => by
    refine zqrS 1 hl fun _ _ hl => ?_; refine zqrI 15 hl fun _ hl => ?_; refine zqrI 16 hl fun _ hl => ?_; exact Eq.mpr (e25_1 ..) hl,
  trivial⟩) rfl hg

theorem e26_0 (J : J26) : zqe c k q26 u26 (f26 J) d26 Go.Proofs.Tryz.f26 .root f h = s26_0 c k J (f 0) (f 1) (f 2) (f 3) h := by kernel_rfl
theorem e26_1 (J : J26) (n_43 : Int) (n_44 : Int) : zqe c k q26 u26 (f26 J) d26 Go.Proofs.Tryz.f26 (.l (.r (.l (.r (.r (.r .root)))))) (fset (fset f 43 (.int .i64 n_43)) 44 (.int .i64 n_44)) h = s26_1 c k J (f 8) (f 9) (f 42) n_43 n_44 h := by kernel_rfl
theorem w26 (hc : zqco c) {n : Nat} {a : List AV} (hg : f26 (r26 c k n) 0 (finit a) h) : zqs 26 a h k :=
 zqw hc q26 Go.Proofs.Tryz.func26 rfl (by kernel_rfl) (by kernel_rfl) k u26 (fun n => f26 (r26 c k n)) (fun L _ _ hl => match L, hl with
  | 0, hl => hl
  | 1, hl => zqnI hl fun _ hl => zqnI hl fun _ hl => hl
  | _ + 2, hl => hl) (fun n => ⟨
  fun f h hl => Eq.mpr (e26_0 ..) hl,
  fun f h hl => by
    refine zqrI 43 hl fun _ hl => ?_; refine zqrI 44 hl fun _ hl => ?_; exact Eq.mpr (e26_1 ..) hl,
  trivial⟩) rfl hg

theorem e36_0 (J : J36) (l_0 : Nat) (c_0 : Nat) : zqe c k q36 u36 (f36 J) d36 Go.Proofs.Tryz.f36 .root (fset f 0 (.str l_0 c_0)) h = s36_0 c k J l_0 c_0 h := by kernel_rfl
theorem w36 (hc : zqco c) {n : Nat} {a : List AV} (hg : f36 (r36 c k n) 0 (finit a) h) : zqs 36 a h k :=
 zqw hc q36 Go.Proofs.Tryz.func36 rfl (by kernel_rfl) (by kernel_rfl) k u36 (fun n => f36 (r36 c k n)) (fun L _ _ hl => match L, hl with
  | 0, hl => zqnS hl fun _ _ hl => hl
  | _ + 1, hl => hl) (fun n => ⟨
  fun f h hl => by
    refine zqrS 0 hl fun _ _ hl => ?_; exact Eq.mpr (e36_0 ..) hl,
  trivial⟩) rfl hg

theorem e37_0 (J : J37) : zqe c k q37 u37 (f37 J) d37 Go.Proofs.Tryz.f37 .root f h = s37_0 c k J (f 0) (f 1) h := by kernel_rfl
theorem w37 (hc : zqco c) {n : Nat} {a : List AV} (hg : f37 (r37 c k n) 0 (finit a) h) : zqs 37 a h k :=
 zqw hc q37 Go.Proofs.Tryz.func37 rfl (by kernel_rfl) (by kernel_rfl) k u37 (fun n => f37 (r37 c k n)) (fun L _ _ hl => match L, hl with
  | 0, hl => hl
  | _ + 1, hl => hl) (fun n => ⟨
  fun f h hl => Eq.mpr (e37_0 ..) hl,
  trivial⟩) rfl hg

theorem e42_0 (J : J42) (l_0 : Nat) (c_0 : Nat) : zqe c k q42 u42 (f42 J) d42 Go.Proofs.Tryz.f42 .root (fset f 0 (.str l_0 c_0)) h = s42_0 c k J l_0 c_0 h := by kernel_rfl
theorem e42_1 (J : J42) (n_4 : Int) : zqe c k q42 u42 (f42 J) d42 Go.Proofs.Tryz.f42 (.l (.r (.l (.r (.r (.r .root)))))) (fset f 4 (.int .i64 n_4)) h = s42_1 c k J (f 3) n_4 h := by kernel_rfl
theorem w42 (hc : zqco c) {n : Nat} {a : List AV} (hg : f42 (r42 c k n) 0 (finit a) h) : zqs 42 a h k :=
 zqw hc q42 Go.Proofs.Tryz.func42 rfl (by kernel_rfl) (by kernel_rfl) k u42 (fun n => f42 (r42 c k n)) (fun L _ _ hl => match L, hl with
  | 0, hl => zqnS hl fun _ _ hl => hl
  | 1, hl => zqnI hl fun _ hl => hl
  | _ + 2, hl => hl) (fun n => ⟨
  fun f h hl => by
    refine zqrS 0 hl fun _ _ hl => ?_; exact Eq.mpr (e42_0 ..) hl,
  fun f h hl => by
    refine zqrI 4 hl fun _ hl => ?_; exact Eq.mpr (e42_1 ..) hl,
  trivial⟩) rfl hg

theorem e43_0 (J : J43) (l_1 : Nat) (c_1 : Nat) (l_2 : Nat) (c_2 : Nat) : zqe c k q43 u43 (f43 J) d43 Go.Proofs.Tryz.f43 .root (fset (fset f 1 (.str l_1 c_1)) 2 (.str l_2 c_2)) h = s43_0 c k J (f 0) l_1 c_1 l_2 c_2 h := by kernel_rfl
theorem e43_1 (J : J43) (l_1 : Nat) (c_1 : Nat) (l_2 : Nat) (c_2 : Nat) (n_6 : Int) : zqe c k q43 u43 (f43 J) d43 Go.Proofs.Tryz.f43 (.r (.r (.r .root))) (fset (fset (fset f 1 (.str l_1 c_1)) 2 (.str l_2 c_2)) 6 (.int .i64 n_6)) h = s43_1 c k J (f 0) l_1 c_1 l_2 c_2 n_6 (f 8) h := by kernel_rfl
theorem w43 (hc : zqco c) {n : Nat} {a : List AV} (hg : f43 (r43 c k n) 0 (finit a) h) : zqs 43 a h k :=
 zqw hc q43 Go.Proofs.Tryz.func43 rfl (by kernel_rfl) (by kernel_rfl) k u43 (fun n => f43 (r43 c k n)) (fun L _ _ hl => match L, hl with
  | 0, hl => zqnS hl fun _ _ hl => zqnS hl fun _ _ hl => hl
  | 1, hl => zqnS hl fun _ _ hl => zqnS hl fun _ _ hl => zqnI hl fun _ hl => hl
  | _ + 2, hl => hl) (fun n => ⟨
  fun f h hl => by
    refine zqrS 1 hl fun _ _ hl => ?_; refine zqrS 2 hl fun _ _ hl => ?_; exact Eq.mpr (e43_0 ..) hl,
  fun f h hl => by
    refine zqrS 1 hl fun _ _ hl => ?_; refine zqrS 2 hl fun _ _ hl => ?_; refine zqrI 6 hl fun _ hl => ?_; exact Eq.mpr (e43_1 ..) hl,
  trivial⟩) rfl hg

theorem e46_0 (J : J46) (n_0 : Int) : zqe c k q46 u46 (f46 J) d46 Go.Proofs.Tryz.f46 .root (fset f 0 (.int .i64 n_0)) h = s46_0 c k J n_0 h := by kernel_rfl
theorem w46 (hc : zqco c) {n : Nat} {a : List AV} (hg : f46 (r46 c k n) 0 (finit a) h) : zqs 46 a h k :=
 zqw hc q46 Go.Proofs.Tryz.func46 rfl (by kernel_rfl) (by kernel_rfl) k u46 (fun n => f46 (r46 c k n)) (fun L _ _ hl => match L, hl with
  | 0, hl => zqnI hl fun _ hl => hl
  | _ + 1, hl => hl) (fun n => ⟨
  fun f h hl => by
    refine zqrI 0 hl fun _ hl => ?_; exact Eq.mpr (e46_0 ..) hl,
  trivial⟩) rfl hg

theorem e49_0 (J : J49) : zqe c k q49 u49 (f49 J) d49 Go.Proofs.Tryz.f49 .root f h = s49_0 c k J (f 0) h := by kernel_rfl
theorem w49 (hc : zqco c) {n : Nat} {a : List AV} (hg : f49 (r49 c k n) 0 (finit a) h) : zqs 49 a h k :=
 zqw hc q49 Go.Proofs.Tryz.func49 rfl (by kernel_rfl) (by kernel_rfl) k u49 (fun n => f49 (r49 c k n)) (fun L _ _ hl => match L, hl with
  | 0, hl => hl
  | _ + 1, hl => hl) (fun n => ⟨
  fun f h hl => Eq.mpr (e49_0 ..) hl,
  trivial⟩) rfl hg

theorem e56_0 (J : J56) : zqe c k q56 u56 (f56 J) d56 Go.Proofs.Tryz.f56 .root f h = s56_0 c k J (f 0) h := by kernel_rfl
theorem w56 (hc : zqco c) {n : Nat} {a : List AV} (hg : f56 (r56 c k n) 0 (finit a) h) : zqs 56 a h k :=
 zqw hc q56 Go.Proofs.Tryz.func56 rfl (by kernel_rfl) (by kernel_rfl) k u56 (fun n => f56 (r56 c k n)) (fun L _ _ hl => match L, hl with
  | 0, hl => hl
  | _ + 1, hl => hl) (fun n => ⟨
  fun f h hl => Eq.mpr (e56_0 ..) hl,
  trivial⟩) rfl hg

theorem e67_0 (J : J67) (l_1 : Nat) (c_1 : Nat) : zqe c k q67 u67 (f67 J) d67 Go.Proofs.Tryz.f67 .root (fset f 1 (.str l_1 c_1)) h = s67_0 c k J (f 0) l_1 c_1 h := by kernel_rfl
theorem e67_1 (J : J67) (l_1 : Nat) (c_1 : Nat) (n_4 : Int) : zqe c k q67 u67 (f67 J) d67 Go.Proofs.Tryz.f67 (.l (.r (.l .root))) (fset (fset f 1 (.str l_1 c_1)) 4 (.int .i64 n_4)) h = s67_1 c k J (f 0) l_1 c_1 n_4 h := by kernel_rfl
theorem w67 (hc : zqco c) {n : Nat} {a : List AV} (hg : f67 (r67 c k n) 0 (finit a) h) : zqs 67 a h k :=
 zqw hc q67 Go.Proofs.Tryz.func67 rfl (by kernel_rfl) (by kernel_rfl) k u67 (fun n => f67 (r67 c k n)) (fun L _ _ hl => match L, hl with
  | 0, hl => zqnS hl fun _ _ hl => hl
  | 1, hl => zqnS hl fun _ _ hl => zqnI hl fun _ hl => hl
  | _ + 2, hl => hl) (fun n => ⟨
  fun f h hl => by
    refine zqrS 1 hl fun _ _ hl => ?_; exact Eq.mpr (e67_0 ..) hl,
  fun f h hl => by
    refine zqrS 1 hl fun _ _ hl => ?_; refine zqrI 4 hl fun _ hl => ?_; exact Eq.mpr (e67_1 ..) hl,
  trivial⟩) rfl hg

theorem e68_0 (J : J68) (n_1 : Int) : zqe c k q68 u68 (f68 J) d68 Go.Proofs.Tryz.f68 .root (fset f 1 (.int .i64 n_1)) h = s68_0 c k J (f 0) n_1 h := by kernel_rfl
theorem w68 (hc : zqco c) {n : Nat} {a : List AV} (hg : f68 (r68 c k n) 0 (finit a) h) : zqs 68 a h k :=
 zqw hc q68 Go.Proofs.Tryz.func68 rfl (by kernel_rfl) (by kernel_rfl) k u68 (fun n => f68 (r68 c k n)) (fun L _ _ hl => match L, hl with
  | 0, hl => zqnI hl fun _ hl => hl
  | _ + 1, hl => hl) (fun n => ⟨
  fun f h hl => by
    refine zqrI 1 hl fun _ hl => ?_; exact Eq.mpr (e68_0 ..) hl,
  trivial⟩) rfl hg

theorem e69_0 (J : J69) : zqe c k q69 u69 (f69 J) d69 Go.Proofs.Tryz.f69 .root f h = s69_0 c k J (f 0) (f 1) h := by kernel_rfl
theorem e69_1 (J : J69) (n_5 : Int) : zqe c k q69 u69 (f69 J) d69 Go.Proofs.Tryz.f69 (.l (.r (.r .root))) (fset f 5 (.int .i64 n_5)) h = s69_1 c k J (f 0) (f 1) (f 4) n_5 h := by kernel_rfl
theorem e69_2 (J : J69) (n_5 : Int) (n_8 : Int) : zqe c k q69 u69 (f69 J) d69 Go.Proofs.Tryz.f69 (.l (.l (.r (.r (.r (.r (.l (.r (.l (.l (.r (.r .root)))))))))))) (fset (fset f 5 (.int .i64 n_5)) 8 (.int .i64 n_8)) h = s69_2 c k J (f 0) (f 1) (f 4) n_5 (f 7) n_8 h := by kernel_rfl
theorem e69_3 (J : J69) (n_5 : Int) (n_8 : Int) : zqe c k q69 u69 (f69 J) d69 Go.Proofs.Tryz.f69 (.r (.r (.l (.l (.l (.r (.r (.r (.r (.l (.r (.l (.l (.r (.r .root))))))))))))))) (fset (fset f 5 (.int .i64 n_5)) 8 (.int .i64 n_8)) h = s69_3 c k J (f 0) (f 1) (f 4) n_5 (f 7) n_8 h := by kernel_rfl
theorem w69 (hc : zqco c) {n : Nat} {a : List AV} (hg : f69 (r69 c k n) 0 (finit a) h) : zqs 69 a h k :=
 zqw hc q69 Go.Proofs.Tryz.func69 rfl (by kernel_rfl) (by kernel_rfl) k u69 (fun n => f69 (r69 c k n)) (fun L _ _ hl => match L, hl with
  | 0, hl => hl
  | 1, hl => zqnI hl fun _ hl => hl
  | 2, hl => zqnI hl fun _ hl => zqnI hl fun _ hl => hl
  | 3, hl => zqnI hl fun _ hl => zqnI hl fun _ hl => hl
  | _ + 4, hl => hl) (fun n => ⟨
  fun f h hl => Eq.mpr (e69_0 ..) hl,
  fun f h hl => by
    refine zqrI 5 hl fun _ hl => ?_; exact Eq.mpr (e69_1 ..) hl,
  fun f h hl => by
    refine zqrI 5 hl fun _ hl => ?_; refine zqrI 8 hl fun _ hl => ?_; exact Eq.mpr (e69_2 ..) hl,
  fun f h hl => by
    refine zqrI 5 hl fun _ hl => ?_; refine zqrI 8 hl fun _ hl => ?_; exact Eq.mpr (e69_3 ..) hl,
  trivial⟩) rfl hg

theorem e74_0 (J : J74) (l_0 : Nat) (c_0 : Nat) : zqe c k q74 u74 (f74 J) d74 Go.Proofs.Tryz.f74 .root (fset f 0 (.str l_0 c_0)) h = s74_0 c k J l_0 c_0 h := by kernel_rfl
theorem w74 (hc : zqco c) {n : Nat} {a : List AV} (hg : f74 (r74 c k n) 0 (finit a) h) : zqs 74 a h k :=
 zqw hc q74 Go.Proofs.Tryz.func74 rfl (by kernel_rfl) (by kernel_rfl) k u74 (fun n => f74 (r74 c k n)) (fun L _ _ hl => match L, hl with
  | 0, hl => zqnS hl fun _ _ hl => hl
  | _ + 1, hl => hl) (fun n => ⟨
  fun f h hl => by
    refine zqrS 0 hl fun _ _ hl => ?_; exact Eq.mpr (e74_0 ..) hl,
  trivial⟩) rfl hg

theorem e76_0 (J : J76) : zqe c k q76 u76 (f76 J) d76 Go.Proofs.Tryz.f76 .root f h = s76_0 c k J (f 0) (f 1) h := by kernel_rfl
theorem e76_1 (J : J76) (n_3 : Int) : zqe c k q76 u76 (f76 J) d76 Go.Proofs.Tryz.f76 (.l (.r .root)) (fset f 3 (.int .i64 n_3)) h = s76_1 c k J (f 0) (f 1) n_3 h := by kernel_rfl
theorem w76 (hc : zqco c) {n : Nat} {a : List AV} (hg : f76 (r76 c k n) 0 (finit a) h) : zqs 76 a h k :=
 zqw hc q76 Go.Proofs.Tryz.func76 rfl (by kernel_rfl) (by kernel_rfl) k u76 (fun n => f76 (r76 c k n)) (fun L _ _ hl => match L, hl with
  | 0, hl => hl
  | 1, hl => zqnI hl fun _ hl => hl
  | _ + 2, hl => hl) (fun n => ⟨
  fun f h hl => Eq.mpr (e76_0 ..) hl,
  fun f h hl => by
    refine zqrI 3 hl fun _ hl => ?_; exact Eq.mpr (e76_1 ..) hl,
  trivial⟩) rfl hg

theorem e81_0 (J : J81) : zqe c k q81 u81 (f81 J) d81 Go.Proofs.Tryz.f81 .root f h = s81_0 c k J (f 0) h := by kernel_rfl
theorem w81 (hc : zqco c) {n : Nat} {a : List AV} (hg : f81 (r81 c k n) 0 (finit a) h) : zqs 81 a h k :=
 zqw hc q81 Go.Proofs.Tryz.func81 rfl (by kernel_rfl) (by kernel_rfl) k u81 (fun n => f81 (r81 c k n)) (fun L _ _ hl => match L, hl with
  | 0, hl => hl
  | _ + 1, hl => hl) (fun n => ⟨
  fun f h hl => Eq.mpr (e81_0 ..) hl,
  trivial⟩) rfl hg

theorem e83_0 (J : J83) (l_0 : Nat) (c_0 : Nat) : zqe c k q83 u83 (f83 J) d83 Go.Proofs.Tryz.f83 .root (fset f 0 (.str l_0 c_0)) h = s83_0 c k J l_0 c_0 (f 1) h := by kernel_rfl
theorem w83 (hc : zqco c) {n : Nat} {a : List AV} (hg : f83 (r83 c k n) 0 (finit a) h) : zqs 83 a h k :=
 zqw hc q83 Go.Proofs.Tryz.func83 rfl (by kernel_rfl) (by kernel_rfl) k u83 (fun n => f83 (r83 c k n)) (fun L _ _ hl => match L, hl with
  | 0, hl => zqnS hl fun _ _ hl => hl
  | _ + 1, hl => hl) (fun n => ⟨
  fun f h hl => by
    refine zqrS 0 hl fun _ _ hl => ?_; exact Eq.mpr (e83_0 ..) hl,
  trivial⟩) rfl hg

theorem e96_0 (J : J96) : zqe c k q96 u96 (f96 J) d96 Go.Proofs.Tryz.f96 .root f h = s96_0 c k J (f 0) (f 1) h := by kernel_rfl
theorem w96 (hc : zqco c) {n : Nat} {a : List AV} (hg : f96 (r96 c k n) 0 (finit a) h) : zqs 96 a h k :=
 zqw hc q96 Go.Proofs.Tryz.func96 rfl (by kernel_rfl) (by kernel_rfl) k u96 (fun n => f96 (r96 c k n)) (fun L _ _ hl => match L, hl with
  | 0, hl => hl
  | _ + 1, hl => hl) (fun n => ⟨
  fun f h hl => Eq.mpr (e96_0 ..) hl,
  trivial⟩) rfl hg

theorem e103_0 (J : J103) (l_1 : Nat) (c_1 : Nat) : zqe c k q103 u103 (f103 J) d103 Go.Proofs.Tryz.f103 .root (fset f 1 (.str l_1 c_1)) h = s103_0 c k J (f 0) l_1 c_1 h := by kernel_rfl
theorem w103 (hc : zqco c) {n : Nat} {a : List AV} (hg : f103 (r103 c k n) 0 (finit a) h) : zqs 103 a h k :=
 zqw hc q103 Go.Proofs.Tryz.func103 rfl (by kernel_rfl) (by kernel_rfl) k u103 (fun n => f103 (r103 c k n)) (fun L _ _ hl => match L, hl with
  | 0, hl => zqnS hl fun _ _ hl => hl
  | _ + 1, hl => hl) (fun n => ⟨
  fun f h hl => by
    refine zqrS 1 hl fun _ _ hl => ?_; exact Eq.mpr (e103_0 ..) hl,
  trivial⟩) rfl hg

theorem w104 (hc : zqco c) {m : Nat} {a : List AV} (hg : runJ env c q104 u104 d104 (retA env Go.Proofs.Tryz.f104.results.toList k) m 0 (finit a) h) : zqs 104 a h k := fnI_ok mixed envOk hc q104 Go.Proofs.Tryz.func104 rfl (by kernel_rfl) (by kernel_rfl) (by kernel_rfl) (by simp [u104]) hg
theorem w106 (hc : zqco c) {m : Nat} {a : List AV} (hg : runJ env c q106 u106 d106 (retA env Go.Proofs.Tryz.f106.results.toList k) m 0 (finit a) h) : zqs 106 a h k := fnI_ok mixed envOk hc q106 Go.Proofs.Tryz.func106 rfl (by kernel_rfl) (by kernel_rfl) (by kernel_rfl) (by simp [u106]) hg
theorem w117 (hc : zqco c) {m : Nat} {a : List AV} (hg : runJ env c q117 u117 d117 (retA env Go.Proofs.Tryz.f117.results.toList k) m 0 (finit a) h) : zqs 117 a h k := fnI_ok mixed envOk hc q117 Go.Proofs.Tryz.func117 rfl (by kernel_rfl) (by kernel_rfl) (by kernel_rfl) (by simp [u117]) hg
theorem e120_0 (J : J120) (n_1 : Int) (n_2 : Int) : zqe c k q120 u120 (f120 J) d120 Go.Proofs.Tryz.f120 .root (fset (fset f 1 (.int .i64 n_1)) 2 (.int .i64 n_2)) h = s120_0 c k J (f 0) n_1 n_2 h := by kernel_rfl
theorem e120_1 (J : J120) (n_1 : Int) (n_2 : Int) (n_6 : Int) : zqe c k q120 u120 (f120 J) d120 Go.Proofs.Tryz.f120 (.l (.r .root)) (fset (fset (fset f 1 (.int .i64 n_1)) 2 (.int .i64 n_2)) 6 (.int .i64 n_6)) h = s120_1 c k J (f 0) n_1 n_2 n_6 h := by kernel_rfl
theorem e120_2 (J : J120) (n_1 : Int) (n_2 : Int) (n_6 : Int) (n_7 : Int) : zqe c k q120 u120 (f120 J) d120 Go.Proofs.Tryz.f120 (.l (.r (.l (.l (.r (.l (.l (.r .root)))))))) (fset (fset (fset (fset f 1 (.int .i64 n_1)) 2 (.int .i64 n_2)) 6 (.int .i64 n_6)) 7 (.int .i64 n_7)) h = s120_2 c k J (f 0) n_1 n_2 n_6 n_7 h := by kernel_rfl
theorem w120 (hc : zqco c) {n : Nat} {a : List AV} (hg : f120 (r120 c k n) 0 (finit a) h) : zqs 120 a h k :=
 zqw hc q120 Go.Proofs.Tryz.func120 rfl (by kernel_rfl) (by kernel_rfl) k u120 (fun n => f120 (r120 c k n)) (fun L _ _ hl => match L, hl with
  | 0, hl => zqnI hl fun _ hl => zqnI hl fun _ hl => hl
  | 1, hl => zqnI hl fun _ hl => zqnI hl fun _ hl => zqnI hl fun _ hl => hl
  | 2, hl => zqnI hl fun _ hl => zqnI hl fun _ hl => zqnI hl fun _ hl => zqnI hl fun _ hl => hl
  | _ + 3, hl => hl) (fun n => ⟨
  fun f h hl => by
    refine zqrI 1 hl fun _ hl => ?_; refine zqrI 2 hl fun _ hl => ?_; exact Eq.mpr (e120_0 ..) hl,
  fun f h hl => by
    refine zqrI 1 hl fun _ hl => ?_; refine zqrI 2 hl fun _ hl => ?_; refine zqrI 6 hl fun _ hl => ?_; exact Eq.mpr (e120_1 ..) hl,
  fun f h hl => by
    refine zqrI 1 hl fun _ hl => ?_; refine zqrI 2 hl fun _ hl => ?_; refine zqrI 6 hl fun _ hl => ?_; refine zqrI 7 hl fun _ hl => ?_; exact Eq.mpr (e120_2 ..) hl,
  trivial⟩) rfl hg

theorem w124 (hc : zqco c) {m : Nat} {a : List AV} (hg : runJ env c q124 u124 d124 (retA env Go.Proofs.Tryz.f124.results.toList k) m 0 (finit a) h) : zqs 124 a h k := fnI_ok mixed envOk hc q124 Go.Proofs.Tryz.func124 rfl (by kernel_rfl) (by kernel_rfl) (by kernel_rfl) (by simp [u124]) hg
theorem w129 (hc : zqco c) {m : Nat} {a : List AV} (hg : runJ env c q129 u129 d129 (retA env Go.Proofs.Tryz.f129.results.toList k) m 0 (finit a) h) : zqs 129 a h k := fnI_ok mixed envOk hc q129 Go.Proofs.Tryz.func129 rfl (by kernel_rfl) (by kernel_rfl) (by kernel_rfl) (by simp [u129]) hg
theorem e132_0 (J : J132) : zqe c k q132 u132 (f132 J) d132 Go.Proofs.Tryz.f132 .root f h = s132_0 c k J (f 0) h := by kernel_rfl
theorem e132_1 (J : J132) : zqe c k q132 u132 (f132 J) d132 Go.Proofs.Tryz.f132 (.l (.l (.l (.r (.l (.l (.r (.r .root)))))))) f h = s132_1 c k J (f 0) h := by kernel_rfl
theorem e132_2 (J : J132) (n_4 : Int) : zqe c k q132 u132 (f132 J) d132 Go.Proofs.Tryz.f132 (.l (.r (.l (.r (.r (.r .root)))))) (fset f 4 (.int .i64 n_4)) h = s132_2 c k J (f 0) n_4 h := by kernel_rfl
theorem w132 (hc : zqco c) {n : Nat} {a : List AV} (hg : f132 (r132 c k n) 0 (finit a) h) : zqs 132 a h k :=
 zqw hc q132 Go.Proofs.Tryz.func132 rfl (by kernel_rfl) (by kernel_rfl) k u132 (fun n => f132 (r132 c k n)) (fun L _ _ hl => match L, hl with
  | 0, hl => hl
  | 1, hl => hl
  | 2, hl => zqnI hl fun _ hl => hl
  | _ + 3, hl => hl) (fun n => ⟨
  fun f h hl => Eq.mpr (e132_0 ..) hl,
  fun f h hl => Eq.mpr (e132_1 ..) hl,
  fun f h hl => by
    refine zqrI 4 hl fun _ hl => ?_; exact Eq.mpr (e132_2 ..) hl,
  trivial⟩) rfl hg

theorem e134_0 (J : J134) (n_1 : Int) (n_2 : Int) : zqe c k q134 u134 (f134 J) d134 Go.Proofs.Tryz.f134 .root (fset (fset f 1 (.int .i64 n_1)) 2 (.int .i64 n_2)) h = s134_0 c k J (f 0) n_1 n_2 h := by kernel_rfl
theorem w134 (hc : zqco c) {n : Nat} {a : List AV} (hg : f134 (r134 c k n) 0 (finit a) h) : zqs 134 a h k :=
 zqw hc q134 Go.Proofs.Tryz.func134 rfl (by kernel_rfl) (by kernel_rfl) k u134 (fun n => f134 (r134 c k n)) (fun L _ _ hl => match L, hl with
  | 0, hl => zqnI hl fun _ hl => zqnI hl fun _ hl => hl
  | _ + 1, hl => hl) (fun n => ⟨
  fun f h hl => by
    refine zqrI 1 hl fun _ hl => ?_; refine zqrI 2 hl fun _ hl => ?_; exact Eq.mpr (e134_0 ..) hl,
  trivial⟩) rfl hg

theorem w140 (hc : zqco c) {m : Nat} {a : List AV} (hg : runJ env c q140 u140 d140 (retA env Go.Proofs.Tryz.f140.results.toList k) m 0 (finit a) h) : zqs 140 a h k := fnI_ok mixed envOk hc q140 Go.Proofs.Tryz.func140 rfl (by kernel_rfl) (by kernel_rfl) (by kernel_rfl) (by simp [u140]) hg
theorem w144 (hc : zqco c) {m : Nat} {a : List AV} (hg : runJ env c q144 u144 d144 (retA env Go.Proofs.Tryz.f144.results.toList k) m 0 (finit a) h) : zqs 144 a h k := fnI_ok mixed envOk hc q144 Go.Proofs.Tryz.func144 rfl (by kernel_rfl) (by kernel_rfl) (by kernel_rfl) (by simp [u144]) hg
theorem w148 (hc : zqco c) {m : Nat} {a : List AV} (hg : runJ env c q148 u148 d148 (retA env Go.Proofs.Tryz.f148.results.toList k) m 0 (finit a) h) : zqs 148 a h k := fnI_ok mixed envOk hc q148 Go.Proofs.Tryz.func148 rfl (by kernel_rfl) (by kernel_rfl) (by kernel_rfl) (by simp [u148]) hg
theorem w152 (hc : zqco c) {m : Nat} {a : List AV} (hg : runJ env c q152 u152 d152 (retA env Go.Proofs.Tryz.f152.results.toList k) m 0 (finit a) h) : zqs 152 a h k := fnI_ok mixed envOk hc q152 Go.Proofs.Tryz.func152 rfl (by kernel_rfl) (by kernel_rfl) (by kernel_rfl) (by simp [u152]) hg
theorem e160_0 (J : J160) : zqe c k q160 u160 (f160 J) d160 Go.Proofs.Tryz.f160 .root f h = s160_0 c k J (f 0) h := by kernel_rfl
theorem e160_1 (J : J160) (n_8 : Int) (n_9 : Int) : zqe c k q160 u160 (f160 J) d160 Go.Proofs.Tryz.f160 (.l (.r (.r .root))) (fset (fset f 8 (.int .i64 n_8)) 9 (.int .i64 n_9)) h = s160_1 c k J (f 0) (f 7) n_8 n_9 h := by kernel_rfl
theorem w160 (hc : zqco c) {n : Nat} {a : List AV} (hg : f160 (r160 c k n) 0 (finit a) h) : zqs 160 a h k :=
 zqw hc q160 Go.Proofs.Tryz.func160 rfl (by kernel_rfl) (by kernel_rfl) k u160 (fun n => f160 (r160 c k n)) (fun L _ _ hl => match L, hl with
  | 0, hl => hl
  | 1, hl => zqnI hl fun _ hl => zqnI hl fun _ hl => hl
  | _ + 2, hl => hl) (fun n => ⟨
  fun f h hl => Eq.mpr (e160_0 ..) hl,
  fun f h hl => by
    refine zqrI 8 hl fun _ hl => ?_; refine zqrI 9 hl fun _ hl => ?_; exact Eq.mpr (e160_1 ..) hl,
  trivial⟩) rfl hg

theorem w162 (hc : zqco c) {m : Nat} {a : List AV} (hg : runJ env c q162 u162 d162 (retA env Go.Proofs.Tryz.f162.results.toList k) m 0 (finit a) h) : zqs 162 a h k := fnI_ok mixed envOk hc q162 Go.Proofs.Tryz.func162 rfl (by kernel_rfl) (by kernel_rfl) (by kernel_rfl) (by simp [u162]) hg
theorem w167 (hc : zqco c) {m : Nat} {a : List AV} (hg : runJ env c q167 u167 d167 (retA env Go.Proofs.Tryz.f167.results.toList k) m 0 (finit a) h) : zqs 167 a h k := fnI_ok mixed envOk hc q167 Go.Proofs.Tryz.func167 rfl (by kernel_rfl) (by kernel_rfl) (by kernel_rfl) (by simp [u167]) hg
theorem e169_0 (J : J169) : zqe c k q169 u169 (f169 J) d169 Go.Proofs.Tryz.f169 .root f h = s169_0 c k J (f 0) (f 1) h := by kernel_rfl
theorem w169 (hc : zqco c) {n : Nat} {a : List AV} (hg : f169 (r169 c k n) 0 (finit a) h) : zqs 169 a h k :=
 zqw hc q169 Go.Proofs.Tryz.func169 rfl (by kernel_rfl) (by kernel_rfl) k u169 (fun n => f169 (r169 c k n)) (fun L _ _ hl => match L, hl with
  | 0, hl => hl
  | _ + 1, hl => hl) (fun n => ⟨
  fun f h hl => Eq.mpr (e169_0 ..) hl,
  trivial⟩) rfl hg

theorem w174 (hc : zqco c) {m : Nat} {a : List AV} (hg : runJ env c q174 u174 d174 (retA env Go.Proofs.Tryz.f174.results.toList k) m 0 (finit a) h) : zqs 174 a h k := fnI_ok mixed envOk hc q174 Go.Proofs.Tryz.func174 rfl (by kernel_rfl) (by kernel_rfl) (by kernel_rfl) (by simp [u174]) hg
theorem e181_0 (J : J181) (n_0 : Int) : zqe c k q181 u181 (f181 J) d181 Go.Proofs.Tryz.f181 .root (fset f 0 (.int .u8 n_0)) h = s181_0 c k J n_0 h := by kernel_rfl
theorem w181 (hc : zqco c) {n : Nat} {a : List AV} (hg : f181 (r181 c k n) 0 (finit a) h) : zqs 181 a h k :=
 zqw hc q181 Go.Proofs.Tryz.func181 rfl (by kernel_rfl) (by kernel_rfl) k u181 (fun n => f181 (r181 c k n)) (fun L _ _ hl => match L, hl with
  | 0, hl => zqnI hl fun _ hl => hl
  | _ + 1, hl => hl) (fun n => ⟨
  fun f h hl => by
    refine zqrI 0 hl fun _ hl => ?_; exact Eq.mpr (e181_0 ..) hl,
  trivial⟩) rfl hg

theorem e182_0 (J : J182) : zqe c k q182 u182 (f182 J) d182 Go.Proofs.Tryz.f182 .root f h = s182_0 c k J (f 0) h := by kernel_rfl
theorem e182_1 (J : J182) (n_3 : Int) : zqe c k q182 u182 (f182 J) d182 Go.Proofs.Tryz.f182 (.l (.r (.r (.r (.r (.r .root)))))) (fset f 3 (.int .i64 n_3)) h = s182_1 c k J (f 0) n_3 h := by kernel_rfl
theorem e182_2 (J : J182) (n_3 : Int) : zqe c k q182 u182 (f182 J) d182 Go.Proofs.Tryz.f182 (.r (.l (.l (.r (.r (.r (.r (.r .root)))))))) (fset f 3 (.int .i64 n_3)) h = s182_2 c k J (f 0) n_3 h := by kernel_rfl
theorem e182_3 (J : J182) (n_3 : Int) : zqe c k q182 u182 (f182 J) d182 Go.Proofs.Tryz.f182 (.r (.r (.r .root))) (fset f 3 (.int .i64 n_3)) h = s182_3 c k J (f 0) n_3 h := by kernel_rfl
theorem w182 (hc : zqco c) {n : Nat} {a : List AV} (hg : f182 (r182 c k n) 0 (finit a) h) : zqs 182 a h k :=
 zqw hc q182 Go.Proofs.Tryz.func182 rfl (by kernel_rfl) (by kernel_rfl) k u182 (fun n => f182 (r182 c k n)) (fun L _ _ hl => match L, hl with
  | 0, hl => hl
  | 1, hl => zqnI hl fun _ hl => hl
  | 2, hl => zqnI hl fun _ hl => hl
  | 3, hl => zqnI hl fun _ hl => hl
  | _ + 4, hl => hl) (fun n => ⟨
  fun f h hl => Eq.mpr (e182_0 ..) hl,
  fun f h hl => by
    refine zqrI 3 hl fun _ hl => ?_; exact Eq.mpr (e182_1 ..) hl,
  fun f h hl => by
    refine zqrI 3 hl fun _ hl => ?_; exact Eq.mpr (e182_2 ..) hl,
  fun f h hl => by
    refine zqrI 3 hl fun _ hl => ?_; exact Eq.mpr (e182_3 ..) hl,
  trivial⟩) rfl hg

theorem w186 (hc : zqco c) {m : Nat} {a : List AV} (hg : runJ env c q186 u186 d186 (retA env Go.Proofs.Tryz.f186.results.toList k) m 0 (finit a) h) : zqs 186 a h k := fnI_ok mixed envOk hc q186 Go.Proofs.Tryz.func186 rfl (by kernel_rfl) (by kernel_rfl) (by kernel_rfl) (by simp [u186]) hg
theorem w191 (hc : zqco c) {m : Nat} {a : List AV} (hg : runJ env c q191 u191 d191 (retA env Go.Proofs.Tryz.f191.results.toList k) m 0 (finit a) h) : zqs 191 a h k := fnI_ok mixed envOk hc q191 Go.Proofs.Tryz.func191 rfl (by kernel_rfl) (by kernel_rfl) (by kernel_rfl) (by simp [u191]) hg
theorem w195 (hc : zqco c) {m : Nat} {a : List AV} (hg : runJ env c q195 u195 d195 (retA env Go.Proofs.Tryz.f195.results.toList k) m 0 (finit a) h) : zqs 195 a h k := fnI_ok mixed envOk hc q195 Go.Proofs.Tryz.func195 rfl (by kernel_rfl) (by kernel_rfl) (by kernel_rfl) (by simp [u195]) hg
theorem e200_0 (J : J200) (l_0 : Nat) (c_0 : Nat) (n_1 : Int) : zqe c k q200 u200 (f200 J) d200 Go.Proofs.Tryz.f200 .root (fset (fset f 0 (.str l_0 c_0)) 1 (.int .u8 n_1)) h = s200_0 c k J l_0 c_0 n_1 h := by kernel_rfl
theorem w200 (hc : zqco c) {n : Nat} {a : List AV} (hg : f200 (r200 c k n) 0 (finit a) h) : zqs 200 a h k :=
 zqw hc q200 Go.Proofs.Tryz.func200 rfl (by kernel_rfl) (by kernel_rfl) k u200 (fun n => f200 (r200 c k n)) (fun L _ _ hl => match L, hl with
  | 0, hl => zqnS hl fun _ _ hl => zqnI hl fun _ hl => hl
  | _ + 1, hl => hl) (fun n => ⟨
  fun f h hl => by
    refine zqrS 0 hl fun _ _ hl => ?_; refine zqrI 1 hl fun _ hl => ?_; exact Eq.mpr (e200_0 ..) hl,
  trivial⟩) rfl hg

theorem w203 (hc : zqco c) {m : Nat} {a : List AV} (hg : runJ env c q203 u203 d203 (retA env Go.Proofs.Tryz.f203.results.toList k) m 0 (finit a) h) : zqs 203 a h k := fnI_ok mixed envOk hc q203 Go.Proofs.Tryz.func203 rfl (by kernel_rfl) (by kernel_rfl) (by kernel_rfl) (by simp [u203]) hg
theorem w209 (hc : zqco c) {m : Nat} {a : List AV} (hg : runJ env c q209 u209 d209 (retA env Go.Proofs.Tryz.f209.results.toList k) m 0 (finit a) h) : zqs 209 a h k := fnI_ok mixed envOk hc q209 Go.Proofs.Tryz.func209 rfl (by kernel_rfl) (by kernel_rfl) (by kernel_rfl) (by simp [u209]) hg
theorem w215 (hc : zqco c) {m : Nat} {a : List AV} (hg : runJ env c q215 u215 d215 (retA env Go.Proofs.Tryz.f215.results.toList k) m 0 (finit a) h) : zqs 215 a h k := fnI_ok mixed envOk hc q215 Go.Proofs.Tryz.func215 rfl (by kernel_rfl) (by kernel_rfl) (by kernel_rfl) (by simp [u215]) hg
theorem w223 (hc : zqco c) {m : Nat} {a : List AV} (hg : runJ env c q223 u223 d223 (retA env Go.Proofs.Tryz.f223.results.toList k) m 0 (finit a) h) : zqs 223 a h k := fnI_ok mixed envOk hc q223 Go.Proofs.Tryz.func223 rfl (by kernel_rfl) (by kernel_rfl) (by kernel_rfl) (by simp [u223]) hg
theorem w227 (hc : zqco c) {m : Nat} {a : List AV} (hg : runJ env c q227 u227 d227 (retA env Go.Proofs.Tryz.f227.results.toList k) m 0 (finit a) h) : zqs 227 a h k := fnI_ok mixed envOk hc q227 Go.Proofs.Tryz.func227 rfl (by kernel_rfl) (by kernel_rfl) (by kernel_rfl) (by simp [u227]) hg
theorem w231 (hc : zqco c) {m : Nat} {a : List AV} (hg : runJ env c q231 u231 d231 (retA env Go.Proofs.Tryz.f231.results.toList k) m 0 (finit a) h) : zqs 231 a h k := fnI_ok mixed envOk hc q231 Go.Proofs.Tryz.func231 rfl (by kernel_rfl) (by kernel_rfl) (by kernel_rfl) (by simp [u231]) hg
theorem e236_0 (J : J236) : zqe c k q236 u236 (f236 J) d236 Go.Proofs.Tryz.f236 .root f h = s236_0 c k J (f 0) h := by kernel_rfl
theorem w236 (hc : zqco c) {n : Nat} {a : List AV} (hg : f236 (r236 c k n) 0 (finit a) h) : zqs 236 a h k :=
 zqw hc q236 Go.Proofs.Tryz.func236 rfl (by kernel_rfl) (by kernel_rfl) k u236 (fun n => f236 (r236 c k n)) (fun L _ _ hl => match L, hl with
  | 0, hl => hl
  | _ + 1, hl => hl) (fun n => ⟨
  fun f h hl => Eq.mpr (e236_0 ..) hl,
  trivial⟩) rfl hg

theorem w240 (hc : zqco c) {m : Nat} {a : List AV} (hg : runJ env c q240 u240 d240 (retA env Go.Proofs.Tryz.f240.results.toList k) m 0 (finit a) h) : zqs 240 a h k := fnI_ok mixed envOk hc q240 Go.Proofs.Tryz.func240 rfl (by kernel_rfl) (by kernel_rfl) (by kernel_rfl) (by simp [u240]) hg
theorem w248 (hc : zqco c) {m : Nat} {a : List AV} (hg : runJ env c q248 u248 d248 (retA env Go.Proofs.Tryz.f248.results.toList k) m 0 (finit a) h) : zqs 248 a h k := fnI_ok mixed envOk hc q248 Go.Proofs.Tryz.func248 rfl (by kernel_rfl) (by kernel_rfl) (by kernel_rfl) (by simp [u248]) hg
theorem w252 (hc : zqco c) {m : Nat} {a : List AV} (hg : runJ env c q252 u252 d252 (retA env Go.Proofs.Tryz.f252.results.toList k) m 0 (finit a) h) : zqs 252 a h k := fnI_ok mixed envOk hc q252 Go.Proofs.Tryz.func252 rfl (by kernel_rfl) (by kernel_rfl) (by kernel_rfl) (by simp [u252]) hg
theorem w258 (hc : zqco c) {m : Nat} {a : List AV} (hg : runJ env c q258 u258 d258 (retA env Go.Proofs.Tryz.f258.results.toList k) m 0 (finit a) h) : zqs 258 a h k := fnI_ok mixed envOk hc q258 Go.Proofs.Tryz.func258 rfl (by kernel_rfl) (by kernel_rfl) (by kernel_rfl) (by simp [u258]) hg
theorem e263_0 (J : J263) : zqe c k q263 u263 (f263 J) d263 Go.Proofs.Tryz.f263 .root f h = s263_0 c k J (f 0) h := by kernel_rfl
theorem e263_1 (J : J263) : zqe c k q263 u263 (f263 J) d263 Go.Proofs.Tryz.f263 (.r .root) f h = s263_1 c k J (f 0) h := by kernel_rfl
theorem w263 (hc : zqco c) {n : Nat} {a : List AV} (hg : f263 (r263 c k n) 0 (finit a) h) : zqs 263 a h k :=
 zqw hc q263 Go.Proofs.Tryz.func263 rfl (by kernel_rfl) (by kernel_rfl) k u263 (fun n => f263 (r263 c k n)) (fun L _ _ hl => match L, hl with
  | 0, hl => hl
  | 1, hl => hl
  | _ + 2, hl => hl) (fun n => ⟨
  fun f h hl => Eq.mpr (e263_0 ..) hl,
  fun f h hl => Eq.mpr (e263_1 ..) hl,
  trivial⟩) rfl hg

theorem w267 (hc : zqco c) {m : Nat} {a : List AV} (hg : runJ env c q267 u267 d267 (retA env Go.Proofs.Tryz.f267.results.toList k) m 0 (finit a) h) : zqs 267 a h k := fnI_ok mixed envOk hc q267 Go.Proofs.Tryz.func267 rfl (by kernel_rfl) (by kernel_rfl) (by kernel_rfl) (by simp [u267]) hg
theorem e269_0 (J : J269) (l_0 : Nat) (c_0 : Nat) (l_1 : Nat) (c_1 : Nat) : zqe c k q269 u269 (f269 J) d269 Go.Proofs.Tryz.f269 .root (fset (fset f 0 (.str l_0 c_0)) 1 (.str l_1 c_1)) h = s269_0 c k J l_0 c_0 l_1 c_1 h := by kernel_rfl
theorem w269 (hc : zqco c) {n : Nat} {a : List AV} (hg : f269 (r269 c k n) 0 (finit a) h) : zqs 269 a h k :=
 zqw hc q269 Go.Proofs.Tryz.func269 rfl (by kernel_rfl) (by kernel_rfl) k u269 (fun n => f269 (r269 c k n)) (fun L _ _ hl => match L, hl with
  | 0, hl => zqnS hl fun _ _ hl => zqnS hl fun _ _ hl => hl
  | _ + 1, hl => hl) (fun n => ⟨
  fun f h hl => by
    refine zqrS 0 hl fun _ _ hl => ?_; refine zqrS 1 hl fun _ _ hl => ?_; exact Eq.mpr (e269_0 ..) hl,
  trivial⟩) rfl hg

theorem e273_0 (J : J273) (l_0 : Nat) (c_0 : Nat) : zqe c k q273 u273 (f273 J) d273 Go.Proofs.Tryz.f273 .root (fset f 0 (.str l_0 c_0)) h = s273_0 c k J l_0 c_0 h := by kernel_rfl
theorem e273_1 (J : J273) : zqe c k q273 u273 (f273 J) d273 Go.Proofs.Tryz.f273 (.lab (.r .root) 0) f h = s273_1 c k J  h := by kernel_rfl
theorem w273 (hc : zqco c) {n : Nat} {a : List AV} (hg : f273 (r273 c k n) 0 (finit a) h) : zqs 273 a h k :=
 zqw hc q273 Go.Proofs.Tryz.func273 rfl (by kernel_rfl) (by kernel_rfl) k u273 (fun n => f273 (r273 c k n)) (fun L _ _ hl => match L, hl with
  | 0, hl => zqnS hl fun _ _ hl => hl
  | 1, hl => hl
  | _ + 2, hl => hl) (fun n => ⟨
  fun f h hl => by
    refine zqrS 0 hl fun _ _ hl => ?_; exact Eq.mpr (e273_0 ..) hl,
  fun f h hl => Eq.mpr (e273_1 ..) hl,
  trivial⟩) rfl hg

theorem w277 (hc : zqco c) {m : Nat} {a : List AV} (hg : runJ env c q277 u277 d277 (retA env Go.Proofs.Tryz.f277.results.toList k) m 0 (finit a) h) : zqs 277 a h k := fnI_ok mixed envOk hc q277 Go.Proofs.Tryz.func277 rfl (by kernel_rfl) (by kernel_rfl) (by kernel_rfl) (by simp [u277]) hg
theorem w281 (hc : zqco c) {m : Nat} {a : List AV} (hg : runJ env c q281 u281 d281 (retA env Go.Proofs.Tryz.f281.results.toList k) m 0 (finit a) h) : zqs 281 a h k := fnI_ok mixed envOk hc q281 Go.Proofs.Tryz.func281 rfl (by kernel_rfl) (by kernel_rfl) (by kernel_rfl) (by simp [u281]) hg
theorem w290 (hc : zqco c) {m : Nat} {a : List AV} (hg : runJ env c q290 u290 d290 (retA env Go.Proofs.Tryz.f290.results.toList k) m 0 (finit a) h) : zqs 290 a h k := fnI_ok mixed envOk hc q290 Go.Proofs.Tryz.func290 rfl (by kernel_rfl) (by kernel_rfl) (by kernel_rfl) (by simp [u290]) hg
theorem w296 (hc : zqco c) {m : Nat} {a : List AV} (hg : runJ env c q296 u296 d296 (retA env Go.Proofs.Tryz.f296.results.toList k) m 0 (finit a) h) : zqs 296 a h k := fnI_ok mixed envOk hc q296 Go.Proofs.Tryz.func296 rfl (by kernel_rfl) (by kernel_rfl) (by kernel_rfl) (by simp [u296]) hg
theorem e302_0 (J : J302) (l_1 : Nat) (c_1 : Nat) : zqe c k q302 u302 (f302 J) d302 Go.Proofs.Tryz.f302 .root (fset f 1 (.str l_1 c_1)) h = s302_0 c k J (f 0) l_1 c_1 h := by kernel_rfl
theorem e302_1 (J : J302) (l_1 : Nat) (c_1 : Nat) (n_5 : Int) : zqe c k q302 u302 (f302 J) d302 Go.Proofs.Tryz.f302 (.r (.l (.r (.l (.r (.r (.r .root))))))) (fset (fset f 1 (.str l_1 c_1)) 5 (.int .i64 n_5)) h = s302_1 c k J (f 0) l_1 c_1 n_5 h := by kernel_rfl
theorem e302_2 (J : J302) (l_1 : Nat) (c_1 : Nat) (n_5 : Int) (n_40 : Int) (n_41 : Int) : zqe c k q302 u302 (f302 J) d302 Go.Proofs.Tryz.f302 (.l (.r (.l (.r (.r (.r (.r .root))))))) (fset (fset (fset (fset f 1 (.str l_1 c_1)) 5 (.int .i64 n_5)) 40 (.int .i64 n_40)) 41 (.int .i64 n_41)) h = s302_2 c k J (f 0) l_1 c_1 n_5 (f 39) n_40 n_41 h := by kernel_rfl
theorem e302_3 (J : J302) (l_1 : Nat) (c_1 : Nat) (n_5 : Int) (l_7 : Nat) (c_7 : Nat) (n_40 : Int) (n_41 : Int) : zqe c k q302 u302 (f302 J) d302 Go.Proofs.Tryz.f302 (.r (.r (.l (.l (.r (.r (.l (.l (.r (.l (.r (.r (.r (.r .root)))))))))))))) (fset (fset (fset (fset (fset f 1 (.str l_1 c_1)) 5 (.int .i64 n_5)) 7 (.str l_7 c_7)) 40 (.int .i64 n_40)) 41 (.int .i64 n_41)) h = s302_3 c k J (f 0) l_1 c_1 n_5 l_7 c_7 (f 39) n_40 n_41 h := by kernel_rfl
theorem e302_4 (J : J302) (l_1 : Nat) (c_1 : Nat) (n_64 : Int) (n_65 : Int) : zqe c k q302 u302 (f302 J) d302 Go.Proofs.Tryz.f302 (.l (.r (.l (.r (.r (.r (.r (.r (.r (.r (.r .root))))))))))) (fset (fset (fset f 1 (.str l_1 c_1)) 64 (.int .i64 n_64)) 65 (.int .i64 n_65)) h = s302_4 c k J l_1 c_1 (f 8) (f 63) n_64 n_65 h := by kernel_rfl
theorem e302_5 (J : J302) (l_1 : Nat) (c_1 : Nat) (n_5 : Int) : zqe c k q302 u302 (f302 J) d302 Go.Proofs.Tryz.f302 (.r (.r (.r (.r .root)))) (fset (fset f 1 (.str l_1 c_1)) 5 (.int .i64 n_5)) h = s302_5 c k J (f 0) l_1 c_1 n_5 h := by kernel_rfl
theorem w302 (hc : zqco c) {n : Nat} {a : List AV} (hg : f302 (r302 c k n) 0 (finit a) h) : zqs 302 a h k :=
 zqw hc q302 Go.Proofs.Tryz.func302 rfl (by kernel_rfl) (by kernel_rfl) k u302 (fun n => f302 (r302 c k n)) (fun L _ _ hl => match L, hl with
  | 0, hl => zqnS hl fun _ _ hl => hl
  | 1, hl => zqnS hl fun _ _ hl => zqnI hl fun _ hl => hl
  | 2, hl => zqnS hl fun _ _ hl => zqnI hl fun _ hl => zqnI hl fun _ hl => zqnI hl fun _ hl => hl
  | 3, hl => zqnS hl fun _ _ hl => zqnI hl fun _ hl => zqnS hl fun _ _ hl => zqnI hl fun _ hl => zqnI hl fun _ hl => hl
  | 4, hl => zqnS hl fun _ _ hl => zqnI hl fun _ hl => zqnI hl fun _ hl => hl
  | 5, hl => zqnS hl fun _ _ hl => zqnI hl fun _ hl => hl
  | _ + 6, hl => hl) (fun n => ⟨
  fun f h hl => by
    refine zqrS 1 hl fun _ _ hl => ?_; exact Eq.mpr (e302_0 ..) hl,
  fun f h hl => by
    refine zqrS 1 hl fun _ _ hl => ?_; refine zqrI 5 hl fun _ hl => ?_; exact Eq.mpr (e302_1 ..) hl,
  fun f h hl => by
    refine zqrS 1 hl fun _ _ hl => ?_; refine zqrI 5 hl fun _ hl => ?_; refine zqrI 40 hl fun _ hl => ?_; refine zqrI 41 hl fun _ hl => ?_; exact Eq.mpr (e302_2 ..) hl,
  fun f h hl => by
    refine zqrS 1 hl fun _ _ hl => ?_; refine zqrI 5 hl fun _ hl => ?_; refine zqrS 7 hl fun _ _ hl => ?_; refine zqrI 40 hl fun _ hl => ?_; refine zqrI 41 hl fun _ hl => ?_; exact Eq.mpr (e302_3 ..) hl,
  fun f h hl => by
    refine zqrS 1 hl fun _ _ hl => ?_; refine zqrI 64 hl fun _ hl => ?_; refine zqrI 65 hl fun _ hl => ?_; exact Eq.mpr (e302_4 ..) hl,
  fun f h hl => by
    refine zqrS 1 hl fun _ _ hl => ?_; refine zqrI 5 hl fun _ hl => ?_; exact Eq.mpr (e302_5 ..) hl,
  trivial⟩) rfl hg

theorem w304 (hc : zqco c) {m : Nat} {a : List AV} (hg : runJ env c q304 u304 d304 (retA env Go.Proofs.Tryz.f304.results.toList k) m 0 (finit a) h) : zqs 304 a h k := fnI_ok mixed envOk hc q304 Go.Proofs.Tryz.func304 rfl (by kernel_rfl) (by kernel_rfl) (by kernel_rfl) (by simp [u304]) hg
theorem w308 (hc : zqco c) {m : Nat} {a : List AV} (hg : runJ env c q308 u308 d308 (retA env Go.Proofs.Tryz.f308.results.toList k) m 0 (finit a) h) : zqs 308 a h k := fnI_ok mixed envOk hc q308 Go.Proofs.Tryz.func308 rfl (by kernel_rfl) (by kernel_rfl) (by kernel_rfl) (by simp [u308]) hg
theorem w312 (hc : zqco c) {m : Nat} {a : List AV} (hg : runJ env c q312 u312 d312 (retA env Go.Proofs.Tryz.f312.results.toList k) m 0 (finit a) h) : zqs 312 a h k := fnI_ok mixed envOk hc q312 Go.Proofs.Tryz.func312 rfl (by kernel_rfl) (by kernel_rfl) (by kernel_rfl) (by simp [u312]) hg
theorem w316 (hc : zqco c) {m : Nat} {a : List AV} (hg : runJ env c q316 u316 d316 (retA env Go.Proofs.Tryz.f316.results.toList k) m 0 (finit a) h) : zqs 316 a h k := fnI_ok mixed envOk hc q316 Go.Proofs.Tryz.func316 rfl (by kernel_rfl) (by kernel_rfl) (by kernel_rfl) (by simp [u316]) hg
theorem w329 (hc : zqco c) {m : Nat} {a : List AV} (hg : runJ env c q329 u329 d329 (retA env Go.Proofs.Tryz.f329.results.toList k) m 0 (finit a) h) : zqs 329 a h k := fnI_ok mixed envOk hc q329 Go.Proofs.Tryz.func329 rfl (by kernel_rfl) (by kernel_rfl) (by kernel_rfl) (by simp [u329]) hg
theorem w334 (hc : zqco c) {m : Nat} {a : List AV} (hg : runJ env c q334 u334 d334 (retA env Go.Proofs.Tryz.f334.results.toList k) m 0 (finit a) h) : zqs 334 a h k := fnI_ok mixed envOk hc q334 Go.Proofs.Tryz.func334 rfl (by kernel_rfl) (by kernel_rfl) (by kernel_rfl) (by simp [u334]) hg
theorem w338 (hc : zqco c) {m : Nat} {a : List AV} (hg : runJ env c q338 u338 d338 (retA env Go.Proofs.Tryz.f338.results.toList k) m 0 (finit a) h) : zqs 338 a h k := fnI_ok mixed envOk hc q338 Go.Proofs.Tryz.func338 rfl (by kernel_rfl) (by kernel_rfl) (by kernel_rfl) (by simp [u338]) hg
theorem w342 (hc : zqco c) {m : Nat} {a : List AV} (hg : runJ env c q342 u342 d342 (retA env Go.Proofs.Tryz.f342.results.toList k) m 0 (finit a) h) : zqs 342 a h k := fnI_ok mixed envOk hc q342 Go.Proofs.Tryz.func342 rfl (by kernel_rfl) (by kernel_rfl) (by kernel_rfl) (by simp [u342]) hg
theorem w349 (hc : zqco c) {m : Nat} {a : List AV} (hg : runJ env c q349 u349 d349 (retA env Go.Proofs.Tryz.f349.results.toList k) m 0 (finit a) h) : zqs 349 a h k := fnI_ok mixed envOk hc q349 Go.Proofs.Tryz.func349 rfl (by kernel_rfl) (by kernel_rfl) (by kernel_rfl) (by simp [u349]) hg
theorem w353 (hc : zqco c) {m : Nat} {a : List AV} (hg : runJ env c q353 u353 d353 (retA env Go.Proofs.Tryz.f353.results.toList k) m 0 (finit a) h) : zqs 353 a h k := fnI_ok mixed envOk hc q353 Go.Proofs.Tryz.func353 rfl (by kernel_rfl) (by kernel_rfl) (by kernel_rfl) (by simp [u353]) hg
theorem w357 (hc : zqco c) {m : Nat} {a : List AV} (hg : runJ env c q357 u357 d357 (retA env Go.Proofs.Tryz.f357.results.toList k) m 0 (finit a) h) : zqs 357 a h k := fnI_ok mixed envOk hc q357 Go.Proofs.Tryz.func357 rfl (by kernel_rfl) (by kernel_rfl) (by kernel_rfl) (by simp [u357]) hg
theorem w363 (hc : zqco c) {m : Nat} {a : List AV} (hg : runJ env c q363 u363 d363 (retA env Go.Proofs.Tryz.f363.results.toList k) m 0 (finit a) h) : zqs 363 a h k := fnI_ok mixed envOk hc q363 Go.Proofs.Tryz.func363 rfl (by kernel_rfl) (by kernel_rfl) (by kernel_rfl) (by simp [u363]) hg
theorem w369 (hc : zqco c) {m : Nat} {a : List AV} (hg : runJ env c q369 u369 d369 (retA env Go.Proofs.Tryz.f369.results.toList k) m 0 (finit a) h) : zqs 369 a h k := fnI_ok mixed envOk hc q369 Go.Proofs.Tryz.func369 rfl (by kernel_rfl) (by kernel_rfl) (by kernel_rfl) (by simp [u369]) hg
end Go.Den
