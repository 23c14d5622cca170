/-
  A part of the proof: the pieces are what the program does.
-/
import Derived.Test.YtbjfkibkjjmdnaaGreatDoorRunA1
import Derived.Test.YtbjfkibkjjmdnaaGreatDoorRunA2
import Derived.KernelRfl
namespace Go.Den
set_option maxRecDepth 100000
variable {c : Caller Prop FT} {k : KV} {f : FT} {h : H}
theorem e8_0 (J : J8) : zqe c k q8 u8 (f8 J) d8 Go.Proofs.Tryz.f8 .root f h = s8_0 c k J (f 0) (f 1) h := by kernel_rfl
theorem e8_1 (J : J8) (n_10 : Int) : zqe c k q8 u8 (f8 J) d8 Go.Proofs.Tryz.f8 (.l (.r (.l (.r (.r (.r (.r .root))))))) (fset f 10 (.int .i64 n_10)) h = s8_1 c k J (f 1) (f 7) (f 9) n_10 h := by kernel_rfl
theorem w8 (hc : zqco c) {n : Nat} {a : List AV} (hg : f8 (r8 c k n) 0 (finit a) h) : zqs 8 a h k :=
 zqw hc q8 Go.Proofs.Tryz.func8 rfl (by kernel_rfl) (by kernel_rfl) k u8 (fun n => f8 (r8 c k n)) (fun L _ _ hl => match L, hl with
  | 0, hl => hl
  | 1, hl => zqnI hl fun _ hl => hl
  | _ + 2, hl => hl) (fun n => ⟨
  fun f h hl => Eq.mpr (e8_0 ..) hl,
  fun f h hl => by
    refine zqrI 10 hl fun _ hl => ?_; exact Eq.mpr (e8_1 ..) hl,
  trivial⟩) rfl hg

theorem e9_0 (J : J9) (l_1 : Nat) (c_1 : Nat) : zqe c k q9 u9 (f9 J) d9 Go.Proofs.Tryz.f9 .root (fset f 1 (.str l_1 c_1)) h = s9_0 c k J (f 0) l_1 c_1 (f 2) h := by kernel_rfl
theorem w9 (hc : zqco c) {n : Nat} {a : List AV} (hg : f9 (r9 c k n) 0 (finit a) h) : zqs 9 a h k :=
 zqw hc q9 Go.Proofs.Tryz.func9 rfl (by kernel_rfl) (by kernel_rfl) k u9 (fun n => f9 (r9 c k n)) (fun L _ _ hl => match L, hl with
  | 0, hl => zqnS hl fun _ _ hl => hl
  | _ + 1, hl => hl) (fun n => ⟨
  fun f h hl => by
    refine zqrS 1 hl fun _ _ hl => ?_; exact Eq.mpr (e9_0 ..) hl,
  trivial⟩) rfl hg

theorem e21_0 (J : J21) : zqe c k q21 u21 (f21 J) d21 Go.Proofs.Tryz.f21 .root f h = s21_0 c k J (f 0) h := by kernel_rfl
theorem w21 (hc : zqco c) {n : Nat} {a : List AV} (hg : f21 (r21 c k n) 0 (finit a) h) : zqs 21 a h k :=
 zqw hc q21 Go.Proofs.Tryz.func21 rfl (by kernel_rfl) (by kernel_rfl) k u21 (fun n => f21 (r21 c k n)) (fun L _ _ hl => match L, hl with
  | 0, hl => hl
  | _ + 1, hl => hl) (fun n => ⟨
  fun f h hl => Eq.mpr (e21_0 ..) hl,
  trivial⟩) rfl hg

theorem e22_0 (J : J22) (l_1 : Nat) (c_1 : Nat) (l_2 : Nat) (c_2 : Nat) : zqe c k q22 u22 (f22 J) d22 Go.Proofs.Tryz.f22 .root (fset (fset f 1 (.str l_1 c_1)) 2 (.str l_2 c_2)) h = s22_0 c k J (f 0) l_1 c_1 l_2 c_2 h := by kernel_rfl
theorem w22 (hc : zqco c) {n : Nat} {a : List AV} (hg : f22 (r22 c k n) 0 (finit a) h) : zqs 22 a h k :=
 zqw hc q22 Go.Proofs.Tryz.func22 rfl (by kernel_rfl) (by kernel_rfl) k u22 (fun n => f22 (r22 c k n)) (fun L _ _ hl => match L, hl with
  | 0, hl => zqnS hl fun _ _ hl => zqnS hl fun _ _ hl => hl
  | _ + 1, hl => hl) (fun n => ⟨
  fun f h hl => by
    refine zqrS 1 hl fun _ _ hl => ?_; refine zqrS 2 hl fun _ _ hl => ?_; exact Eq.mpr (e22_0 ..) hl,
  trivial⟩) rfl hg

theorem e36_0 (J : J36) (l_0 : Nat) (c_0 : Nat) : zqe c k q36 u36 (f36 J) d36 Go.Proofs.Tryz.f36 .root (fset f 0 (.str l_0 c_0)) h = s36_0 c k J l_0 c_0 h := by kernel_rfl
theorem w36 (hc : zqco c) {n : Nat} {a : List AV} (hg : f36 (r36 c k n) 0 (finit a) h) : zqs 36 a h k :=
 zqw hc q36 Go.Proofs.Tryz.func36 rfl (by kernel_rfl) (by kernel_rfl) k u36 (fun n => f36 (r36 c k n)) (fun L _ _ hl => match L, hl with
  | 0, hl => zqnS hl fun _ _ hl => hl
  | _ + 1, hl => hl) (fun n => ⟨
  fun f h hl => by
    refine zqrS 0 hl fun _ _ hl => ?_; exact Eq.mpr (e36_0 ..) hl,
  trivial⟩) rfl hg

theorem e37_0 (J : J37) : zqe c k q37 u37 (f37 J) d37 Go.Proofs.Tryz.f37 .root f h = s37_0 c k J (f 0) (f 1) h := by kernel_rfl
theorem w37 (hc : zqco c) {n : Nat} {a : List AV} (hg : f37 (r37 c k n) 0 (finit a) h) : zqs 37 a h k :=
 zqw hc q37 Go.Proofs.Tryz.func37 rfl (by kernel_rfl) (by kernel_rfl) k u37 (fun n => f37 (r37 c k n)) (fun L _ _ hl => match L, hl with
  | 0, hl => hl
  | _ + 1, hl => hl) (fun n => ⟨
  fun f h hl => Eq.mpr (e37_0 ..) hl,
  trivial⟩) rfl hg

theorem e43_0 (J : J43) (l_1 : Nat) (c_1 : Nat) (l_2 : Nat) (c_2 : Nat) : zqe c k q43 u43 (f43 J) d43 Go.Proofs.Tryz.f43 .root (fset (fset f 1 (.str l_1 c_1)) 2 (.str l_2 c_2)) h = s43_0 c k J (f 0) l_1 c_1 l_2 c_2 h := by kernel_rfl
theorem e43_1 (J : J43) (l_1 : Nat) (c_1 : Nat) (l_2 : Nat) (c_2 : Nat) (n_6 : Int) : zqe c k q43 u43 (f43 J) d43 Go.Proofs.Tryz.f43 (.r (.r (.r .root))) (fset (fset (fset f 1 (.str l_1 c_1)) 2 (.str l_2 c_2)) 6 (.int .i64 n_6)) h = s43_1 c k J (f 0) l_1 c_1 l_2 c_2 n_6 (f 8) h := by kernel_rfl
theorem w43 (hc : zqco c) {n : Nat} {a : List AV} (hg : f43 (r43 c k n) 0 (finit a) h) : zqs 43 a h k :=
 zqw hc q43 Go.Proofs.Tryz.func43 rfl (by kernel_rfl) (by kernel_rfl) k u43 (fun n => f43 (r43 c k n)) (fun L _ _ hl => match L, hl with
  | 0, hl => zqnS hl fun _ _ hl => zqnS hl fun _ _ hl => hl
  | 1, hl => zqnS hl fun _ _ hl => zqnS hl fun _ _ hl => zqnI hl fun _ hl => hl
  | _ + 2, hl => hl) (fun n => ⟨
  fun f h hl => by
    refine zqrS 1 hl fun _ _ hl => ?_; refine zqrS 2 hl fun _ _ hl => ?_; exact Eq.mpr (e43_0 ..) hl,
  fun f h hl => by
    refine zqrS 1 hl fun _ _ hl => ?_; refine zqrS 2 hl fun _ _ hl => ?_; refine zqrI 6 hl fun _ hl => ?_; exact Eq.mpr (e43_1 ..) hl,
  trivial⟩) rfl hg

theorem e48_0 (J : J48) : zqe c k q48 u48 (f48 J) d48 Go.Proofs.Tryz.f48 .root f h = s48_0 c k J (f 0) h := by kernel_rfl
theorem w48 (hc : zqco c) {n : Nat} {a : List AV} (hg : f48 (r48 c k n) 0 (finit a) h) : zqs 48 a h k :=
 zqw hc q48 Go.Proofs.Tryz.func48 rfl (by kernel_rfl) (by kernel_rfl) k u48 (fun n => f48 (r48 c k n)) (fun L _ _ hl => match L, hl with
  | 0, hl => hl
  | _ + 1, hl => hl) (fun n => ⟨
  fun f h hl => Eq.mpr (e48_0 ..) hl,
  trivial⟩) rfl hg

theorem e54_0 (J : J54) : zqe c k q54 u54 (f54 J) d54 Go.Proofs.Tryz.f54 .root f h = s54_0 c k J (f 0) h := by kernel_rfl
theorem w54 (hc : zqco c) {n : Nat} {a : List AV} (hg : f54 (r54 c k n) 0 (finit a) h) : zqs 54 a h k :=
 zqw hc q54 Go.Proofs.Tryz.func54 rfl (by kernel_rfl) (by kernel_rfl) k u54 (fun n => f54 (r54 c k n)) (fun L _ _ hl => match L, hl with
  | 0, hl => hl
  | _ + 1, hl => hl) (fun n => ⟨
  fun f h hl => Eq.mpr (e54_0 ..) hl,
  trivial⟩) rfl hg

theorem e61_0 (J : J61) : zqe c k q61 u61 (f61 J) d61 Go.Proofs.Tryz.f61 .root f h = s61_0 c k J (f 0) (f 1) h := by kernel_rfl
theorem e61_1 (J : J61) (n_7 : Int) (n_8 : Int) : zqe c k q61 u61 (f61 J) d61 Go.Proofs.Tryz.f61 (.l (.r (.l (.r .root)))) (fset (fset f 7 (.int .i64 n_7)) 8 (.int .i64 n_8)) h = s61_1 c k J (f 0) (f 1) n_7 n_8 h := by kernel_rfl
theorem w61 (hc : zqco c) {n : Nat} {a : List AV} (hg : f61 (r61 c k n) 0 (finit a) h) : zqs 61 a h k :=
 zqw hc q61 Go.Proofs.Tryz.func61 rfl (by kernel_rfl) (by kernel_rfl) k u61 (fun n => f61 (r61 c k n)) (fun L _ _ hl => match L, hl with
  | 0, hl => hl
  | 1, hl => zqnI hl fun _ hl => zqnI hl fun _ hl => hl
  | _ + 2, hl => hl) (fun n => ⟨
  fun f h hl => Eq.mpr (e61_0 ..) hl,
  fun f h hl => by
    refine zqrI 7 hl fun _ hl => ?_; refine zqrI 8 hl fun _ hl => ?_; exact Eq.mpr (e61_1 ..) hl,
  trivial⟩) rfl hg

theorem e64_0 (J : J64) (l_1 : Nat) (c_1 : Nat) : zqe c k q64 u64 (f64 J) d64 Go.Proofs.Tryz.f64 .root (fset f 1 (.str l_1 c_1)) h = s64_0 c k J (f 0) l_1 c_1 h := by kernel_rfl
theorem e64_1 (J : J64) (l_1 : Nat) (c_1 : Nat) : zqe c k q64 u64 (f64 J) d64 Go.Proofs.Tryz.f64 (.r .root) (fset f 1 (.str l_1 c_1)) h = s64_1 c k J (f 0) l_1 c_1 h := by kernel_rfl
theorem w64 (hc : zqco c) {n : Nat} {a : List AV} (hg : f64 (r64 c k n) 0 (finit a) h) : zqs 64 a h k :=
 zqw hc q64 Go.Proofs.Tryz.func64 rfl (by kernel_rfl) (by kernel_rfl) k u64 (fun n => f64 (r64 c k n)) (fun L _ _ hl => match L, hl with
  | 0, hl => zqnS hl fun _ _ hl => hl
  | 1, hl => zqnS hl fun _ _ hl => hl
  | _ + 2, hl => hl) (fun n => ⟨
  fun f h hl => by
    refine zqrS 1 hl fun _ _ hl => ?_; exact Eq.mpr (e64_0 ..) hl,
  fun f h hl => by
    refine zqrS 1 hl fun _ _ hl => ?_; exact Eq.mpr (e64_1 ..) hl,
  trivial⟩) rfl hg

theorem e65_0 (J : J65) (l_0 : Nat) (c_0 : Nat) : zqe c k q65 u65 (f65 J) d65 Go.Proofs.Tryz.f65 .root (fset f 0 (.str l_0 c_0)) h = s65_0 c k J l_0 c_0 h := by kernel_rfl
theorem e65_1 (J : J65) (l_0 : Nat) (c_0 : Nat) (n_4 : Int) (n_5 : Int) : zqe c k q65 u65 (f65 J) d65 Go.Proofs.Tryz.f65 (.l (.r (.l (.r (.r (.r .root)))))) (fset (fset (fset f 0 (.str l_0 c_0)) 4 (.int .i64 n_4)) 5 (.int .i64 n_5)) h = s65_1 c k J l_0 c_0 (f 3) n_4 n_5 h := by kernel_rfl
theorem e65_2 (J : J65) (l_0 : Nat) (c_0 : Nat) (n_4 : Int) (n_5 : Int) : zqe c k q65 u65 (f65 J) d65 Go.Proofs.Tryz.f65 (.r (.r (.l (.l (.r (.l (.r (.r (.r .root))))))))) (fset (fset (fset f 0 (.str l_0 c_0)) 4 (.int .i64 n_4)) 5 (.int .i64 n_5)) h = s65_2 c k J l_0 c_0 (f 3) n_4 n_5 h := by kernel_rfl
theorem w65 (hc : zqco c) {n : Nat} {a : List AV} (hg : f65 (r65 c k n) 0 (finit a) h) : zqs 65 a h k :=
 zqw hc q65 Go.Proofs.Tryz.func65 rfl (by kernel_rfl) (by kernel_rfl) k u65 (fun n => f65 (r65 c k n)) (fun L _ _ hl => match L, hl with
  | 0, hl => zqnS hl fun _ _ hl => hl
  | 1, hl => zqnS hl fun _ _ hl => zqnI hl fun _ hl => zqnI hl fun _ hl => hl
  | 2, hl => zqnS hl fun _ _ hl => zqnI hl fun _ hl => zqnI hl fun _ hl => hl
  | _ + 3, hl => hl) (fun n => ⟨
  fun f h hl => by
    refine zqrS 0 hl fun _ _ hl => ?_; exact Eq.mpr (e65_0 ..) hl,
  fun f h hl => by
    refine zqrS 0 hl fun _ _ hl => ?_; refine zqrI 4 hl fun _ hl => ?_; refine zqrI 5 hl fun _ hl => ?_; exact Eq.mpr (e65_1 ..) hl,
  fun f h hl => by
    refine zqrS 0 hl fun _ _ hl => ?_; refine zqrI 4 hl fun _ hl => ?_; refine zqrI 5 hl fun _ hl => ?_; exact Eq.mpr (e65_2 ..) hl,
  trivial⟩) rfl hg

theorem e66_0 (J : J66) (l_0 : Nat) (c_0 : Nat) : zqe c k q66 u66 (f66 J) d66 Go.Proofs.Tryz.f66 .root (fset f 0 (.str l_0 c_0)) h = s66_0 c k J l_0 c_0 h := by kernel_rfl
theorem e66_1 (J : J66) (l_0 : Nat) (c_0 : Nat) (n_3 : Int) : zqe c k q66 u66 (f66 J) d66 Go.Proofs.Tryz.f66 (.l (.r (.l (.r .root)))) (fset (fset f 0 (.str l_0 c_0)) 3 (.int .i64 n_3)) h = s66_1 c k J l_0 c_0 n_3 h := by kernel_rfl
theorem w66 (hc : zqco c) {n : Nat} {a : List AV} (hg : f66 (r66 c k n) 0 (finit a) h) : zqs 66 a h k :=
 zqw hc q66 Go.Proofs.Tryz.func66 rfl (by kernel_rfl) (by kernel_rfl) k u66 (fun n => f66 (r66 c k n)) (fun L _ _ hl => match L, hl with
  | 0, hl => zqnS hl fun _ _ hl => hl
  | 1, hl => zqnS hl fun _ _ hl => zqnI hl fun _ hl => hl
  | _ + 2, hl => hl) (fun n => ⟨
  fun f h hl => by
    refine zqrS 0 hl fun _ _ hl => ?_; exact Eq.mpr (e66_0 ..) hl,
  fun f h hl => by
    refine zqrS 0 hl fun _ _ hl => ?_; refine zqrI 3 hl fun _ hl => ?_; exact Eq.mpr (e66_1 ..) hl,
  trivial⟩) rfl hg

theorem w71 (hc : zqco c) {m : Nat} {a : List AV} (hg : runJ env c q71 u71 d71 (retA env Go.Proofs.Tryz.f71.results.toList k) m 0 (finit a) h) : zqs 71 a h k := fnI_ok mixed envOk hc q71 Go.Proofs.Tryz.func71 rfl (by kernel_rfl) (by kernel_rfl) (by kernel_rfl) (by simp [u71]) hg
theorem e77_0 (J : J77) (n_1 : Int) : zqe c k q77 u77 (f77 J) d77 Go.Proofs.Tryz.f77 .root (fset f 1 (.int .i64 n_1)) h = s77_0 c k J (f 0) n_1 h := by kernel_rfl
theorem w77 (hc : zqco c) {n : Nat} {a : List AV} (hg : f77 (r77 c k n) 0 (finit a) h) : zqs 77 a h k :=
 zqw hc q77 Go.Proofs.Tryz.func77 rfl (by kernel_rfl) (by kernel_rfl) k u77 (fun n => f77 (r77 c k n)) (fun L _ _ hl => match L, hl with
  | 0, hl => zqnI hl fun _ hl => hl
  | _ + 1, hl => hl) (fun n => ⟨
  fun f h hl => by
    refine zqrI 1 hl fun _ hl => ?_; exact Eq.mpr (e77_0 ..) hl,
  trivial⟩) rfl hg

theorem e81_0 (J : J81) : zqe c k q81 u81 (f81 J) d81 Go.Proofs.Tryz.f81 .root f h = s81_0 c k J (f 0) h := by kernel_rfl
theorem w81 (hc : zqco c) {n : Nat} {a : List AV} (hg : f81 (r81 c k n) 0 (finit a) h) : zqs 81 a h k :=
 zqw hc q81 Go.Proofs.Tryz.func81 rfl (by kernel_rfl) (by kernel_rfl) k u81 (fun n => f81 (r81 c k n)) (fun L _ _ hl => match L, hl with
  | 0, hl => hl
  | _ + 1, hl => hl) (fun n => ⟨
  fun f h hl => Eq.mpr (e81_0 ..) hl,
  trivial⟩) rfl hg

theorem e84_0 (J : J84) (l_1 : Nat) (c_1 : Nat) : zqe c k q84 u84 (f84 J) d84 Go.Proofs.Tryz.f84 .root (fset f 1 (.str l_1 c_1)) h = s84_0 c k J (f 0) l_1 c_1 h := by kernel_rfl
theorem w84 (hc : zqco c) {n : Nat} {a : List AV} (hg : f84 (r84 c k n) 0 (finit a) h) : zqs 84 a h k :=
 zqw hc q84 Go.Proofs.Tryz.func84 rfl (by kernel_rfl) (by kernel_rfl) k u84 (fun n => f84 (r84 c k n)) (fun L _ _ hl => match L, hl with
  | 0, hl => zqnS hl fun _ _ hl => hl
  | _ + 1, hl => hl) (fun n => ⟨
  fun f h hl => by
    refine zqrS 1 hl fun _ _ hl => ?_; exact Eq.mpr (e84_0 ..) hl,
  trivial⟩) rfl hg

theorem e88_0 (J : J88) (l_0 : Nat) (c_0 : Nat) : zqe c k q88 u88 (f88 J) d88 Go.Proofs.Tryz.f88 .root (fset f 0 (.str l_0 c_0)) h = s88_0 c k J l_0 c_0 h := by kernel_rfl
theorem w88 (hc : zqco c) {n : Nat} {a : List AV} (hg : f88 (r88 c k n) 0 (finit a) h) : zqs 88 a h k :=
 zqw hc q88 Go.Proofs.Tryz.func88 rfl (by kernel_rfl) (by kernel_rfl) k u88 (fun n => f88 (r88 c k n)) (fun L _ _ hl => match L, hl with
  | 0, hl => zqnS hl fun _ _ hl => hl
  | _ + 1, hl => hl) (fun n => ⟨
  fun f h hl => by
    refine zqrS 0 hl fun _ _ hl => ?_; exact Eq.mpr (e88_0 ..) hl,
  trivial⟩) rfl hg

theorem e93_0 (J : J93) (n_1 : Int) : zqe c k q93 u93 (f93 J) d93 Go.Proofs.Tryz.f93 .root (fset f 1 (.int .i64 n_1)) h = s93_0 c k J (f 0) n_1 (f 2) h := by kernel_rfl
theorem e93_1 (J : J93) : zqe c k q93 u93 (f93 J) d93 Go.Proofs.Tryz.f93 (.r (.r (.l (.r (.l (.r (.r (.r (.r .root))))))))) f h = s93_1 c k J (f 0) (f 6) h := by kernel_rfl
theorem e93_2 (J : J93) (n_1 : Int) (b_81 : Bool) : zqe c k q93 u93 (f93 J) d93 Go.Proofs.Tryz.f93 (.r (.r (.r (.l (.r (.r (.r (.r .root)))))))) (fset (fset f 1 (.int .i64 n_1)) 81 (.bool b_81)) h = s93_2 c k J (f 0) n_1 b_81 h := by kernel_rfl
theorem e93_3 (J : J93) (n_1 : Int) (n_34 : Int) (b_41 : Bool) : zqe c k q93 u93 (f93 J) d93 Go.Proofs.Tryz.f93 (.r (.l (.r (.r (.r (.r .root)))))) (fset (fset (fset f 1 (.int .i64 n_1)) 34 (.int .i64 n_34)) 41 (.bool b_41)) h = s93_3 c k J (f 0) n_1 n_34 b_41 h := by kernel_rfl
theorem e93_4 (J : J93) (n_1 : Int) : zqe c k q93 u93 (f93 J) d93 Go.Proofs.Tryz.f93 (.r (.r (.r .root))) (fset f 1 (.int .i64 n_1)) h = s93_4 c k J (f 0) n_1 h := by kernel_rfl
theorem w93 (hc : zqco c) {n : Nat} {a : List AV} (hg : f93 (r93 c k n) 0 (finit a) h) : zqs 93 a h k :=
 zqw hc q93 Go.Proofs.Tryz.func93 rfl (by kernel_rfl) (by kernel_rfl) k u93 (fun n => f93 (r93 c k n)) (fun L _ _ hl => match L, hl with
  | 0, hl => zqnI hl fun _ hl => hl
  | 1, hl => hl
  | 2, hl => zqnI hl fun _ hl => zqnB hl fun _ hl => hl
  | 3, hl => zqnI hl fun _ hl => zqnI hl fun _ hl => zqnB hl fun _ hl => hl
  | 4, hl => zqnI hl fun _ hl => hl
  | _ + 5, hl => hl) (fun n => ⟨
  fun f h hl => by
    refine zqrI 1 hl fun _ hl => ?_; exact Eq.mpr (e93_0 ..) hl,
  fun f h hl => Eq.mpr (e93_1 ..) hl,
  fun f h hl => by
    refine zqrI 1 hl fun _ hl => ?_; refine zqrB 81 hl fun _ hl => ?_; exact Eq.mpr (e93_2 ..) hl,
  fun f h hl => by
    refine zqrI 1 hl fun _ hl => ?_; refine zqrI 34 hl fun _ hl => ?_; refine zqrB 41 hl fun _ hl => ?_; exact Eq.mpr (e93_3 ..) hl,
  fun f h hl => by
    refine zqrI 1 hl fun _ hl => ?_; exact Eq.mpr (e93_4 ..) hl,
  trivial⟩) rfl hg

theorem e98_0 (J : J98) (n_0 : Int) : zqe c k q98 u98 (f98 J) d98 Go.Proofs.Tryz.f98 .root (fset f 0 (.int .u64 n_0)) h = s98_0 c k J n_0 h := by kernel_rfl
theorem w98 (hc : zqco c) {n : Nat} {a : List AV} (hg : f98 (r98 c k n) 0 (finit a) h) : zqs 98 a h k :=
 zqw hc q98 Go.Proofs.Tryz.func98 rfl (by kernel_rfl) (by kernel_rfl) k u98 (fun n => f98 (r98 c k n)) (fun L _ _ hl => match L, hl with
  | 0, hl => zqnI hl fun _ hl => hl
  | _ + 1, hl => hl) (fun n => ⟨
  fun f h hl => by
    refine zqrI 0 hl fun _ hl => ?_; exact Eq.mpr (e98_0 ..) hl,
  trivial⟩) rfl hg

theorem e102_0 (J : J102) : zqe c k q102 u102 (f102 J) d102 Go.Proofs.Tryz.f102 .root f h = s102_0 c k J (f 0) (f 1) h := by kernel_rfl
theorem e102_1 (J : J102) : zqe c k q102 u102 (f102 J) d102 Go.Proofs.Tryz.f102 (.r (.r .root)) f h = s102_1 c k J (f 3) (f 4) h := by kernel_rfl
theorem w102 (hc : zqco c) {n : Nat} {a : List AV} (hg : f102 (r102 c k n) 0 (finit a) h) : zqs 102 a h k :=
 zqw hc q102 Go.Proofs.Tryz.func102 rfl (by kernel_rfl) (by kernel_rfl) k u102 (fun n => f102 (r102 c k n)) (fun L _ _ hl => match L, hl with
  | 0, hl => hl
  | 1, hl => hl
  | _ + 2, hl => hl) (fun n => ⟨
  fun f h hl => Eq.mpr (e102_0 ..) hl,
  fun f h hl => Eq.mpr (e102_1 ..) hl,
  trivial⟩) rfl hg

theorem e105_0 (J : J105) : zqe c k q105 u105 (f105 J) d105 Go.Proofs.Tryz.f105 .root f h = s105_0 c k J (f 0) (f 1) (f 2) h := by kernel_rfl
theorem e105_1 (J : J105) (n_7 : Int) (n_44 : Int) (n_45 : Int) : zqe c k q105 u105 (f105 J) d105 Go.Proofs.Tryz.f105 (.l (.r (.l (.r (.r (.r (.r .root))))))) (fset (fset (fset f 7 (.int .i64 n_7)) 44 (.int .i64 n_44)) 45 (.int .i64 n_45)) h = s105_1 c k J (f 1) (f 3) (f 5) (f 6) n_7 (f 8) n_44 n_45 h := by kernel_rfl
theorem e105_2 (J : J105) (n_102 : Int) (n_103 : Int) : zqe c k q105 u105 (f105 J) d105 Go.Proofs.Tryz.f105 (.l (.r (.l (.r (.l (.r (.l (.r (.r (.r (.r (.r (.r (.r .root)))))))))))))) (fset (fset f 102 (.int .i64 n_102)) 103 (.int .i64 n_103)) h = s105_2 c k J (f 3) (f 101) n_102 n_103 h := by kernel_rfl
theorem e105_3 (J : J105) (n_7 : Int) (n_10 : Int) (n_128 : Int) (n_129 : Int) : zqe c k q105 u105 (f105 J) d105 Go.Proofs.Tryz.f105 (.l (.r (.l (.r (.l (.r (.r (.r (.r (.r (.r (.r (.r (.r .root)))))))))))))) (fset (fset (fset (fset f 7 (.int .i64 n_7)) 10 (.int .i64 n_10)) 128 (.int .i64 n_128)) 129 (.int .i64 n_129)) h = s105_3 c k J (f 1) (f 3) (f 5) (f 6) n_7 (f 8) n_10 (f 14) (f 127) n_128 n_129 h := by kernel_rfl
theorem e105_4 (J : J105) (n_7 : Int) : zqe c k q105 u105 (f105 J) d105 Go.Proofs.Tryz.f105 (.r (.r (.r (.r (.r (.r (.r (.r (.r (.r (.r .root))))))))))) (fset f 7 (.int .i64 n_7)) h = s105_4 c k J (f 1) (f 3) (f 5) n_7 (f 8) (f 14) h := by kernel_rfl
theorem e105_5 (J : J105) (n_7 : Int) (n_10 : Int) : zqe c k q105 u105 (f105 J) d105 Go.Proofs.Tryz.f105 (.r (.r (.r (.r (.r (.r (.r (.r (.r (.r .root)))))))))) (fset (fset f 7 (.int .i64 n_7)) 10 (.int .i64 n_10)) h = s105_5 c k J (f 1) (f 3) (f 5) (f 6) n_7 (f 8) n_10 (f 14) h := by kernel_rfl
theorem e105_6 (J : J105) (n_102 : Int) (n_103 : Int) : zqe c k q105 u105 (f105 J) d105 Go.Proofs.Tryz.f105 (.r (.l (.r (.l (.r (.l (.r (.r (.r (.r (.r (.r (.r .root))))))))))))) (fset (fset f 102 (.int .i64 n_102)) 103 (.int .i64 n_103)) h = s105_6 c k J (f 3) (f 101) n_102 n_103 h := by kernel_rfl
theorem e105_7 (J : J105) (n_7 : Int) (n_10 : Int) (n_128 : Int) (n_129 : Int) : zqe c k q105 u105 (f105 J) d105 Go.Proofs.Tryz.f105 (.r (.l (.r (.l (.r (.r (.r (.r (.r (.r (.r (.r (.r .root))))))))))))) (fset (fset (fset (fset f 7 (.int .i64 n_7)) 10 (.int .i64 n_10)) 128 (.int .i64 n_128)) 129 (.int .i64 n_129)) h = s105_7 c k J (f 1) (f 3) (f 5) (f 6) n_7 (f 8) n_10 (f 14) (f 127) n_128 n_129 h := by kernel_rfl
theorem w105 (hc : zqco c) {n : Nat} {a : List AV} (hg : f105 (r105 c k n) 0 (finit a) h) : zqs 105 a h k :=
 zqw hc q105 Go.Proofs.Tryz.func105 rfl (by kernel_rfl) (by kernel_rfl) k u105 (fun n => f105 (r105 c k n)) (fun L _ _ hl => match L, hl with
  | 0, hl => hl
  | 1, hl => zqnI hl fun _ hl => zqnI hl fun _ hl => zqnI hl fun _ hl => hl
  | 2, hl => zqnI hl fun _ hl => zqnI hl fun _ hl => hl
  | 3, hl => zqnI hl fun _ hl => zqnI hl fun _ hl => zqnI hl fun _ hl => zqnI hl fun _ hl => hl
  | 4, hl => zqnI hl fun _ hl => hl
  | 5, hl => zqnI hl fun _ hl => zqnI hl fun _ hl => hl
  | 6, hl => zqnI hl fun _ hl => zqnI hl fun _ hl => hl
  | 7, hl => zqnI hl fun _ hl => zqnI hl fun _ hl => zqnI hl fun _ hl => zqnI hl fun _ hl => hl
  | _ + 8, hl => hl) (fun n => ⟨
  fun f h hl => Eq.mpr (e105_0 ..) hl,
  fun f h hl => by
    refine zqrI 7 hl fun _ hl => ?_; refine zqrI 44 hl fun _ hl => ?_; refine zqrI 45 hl fun _ hl => ?_; exact Eq.mpr (e105_1 ..) hl,
  fun f h hl => by
    refine zqrI 102 hl fun _ hl => ?_; refine zqrI 103 hl fun _ hl => ?_; exact Eq.mpr (e105_2 ..) hl,
  fun f h hl => by
    refine zqrI 7 hl fun _ hl => ?_; refine zqrI 10 hl fun _ hl => ?_; refine zqrI 128 hl fun _ hl => ?_; refine zqrI 129 hl fun _ hl => ?_; exact Eq.mpr (e105_3 ..) hl,
  fun f h hl => by
    refine zqrI 7 hl fun _ hl => ?_; exact Eq.mpr (e105_4 ..) hl,
  fun f h hl => by
    refine zqrI 7 hl fun _ hl => ?_; refine zqrI 10 hl fun _ hl => ?_; exact Eq.mpr (e105_5 ..) hl,
  fun f h hl => by
    refine zqrI 102 hl fun _ hl => ?_; refine zqrI 103 hl fun _ hl => ?_; exact Eq.mpr (e105_6 ..) hl,
  fun f h hl => by
    refine zqrI 7 hl fun _ hl => ?_; refine zqrI 10 hl fun _ hl => ?_; refine zqrI 128 hl fun _ hl => ?_; refine zqrI 129 hl fun _ hl => ?_; exact Eq.mpr (e105_7 ..) hl,
  trivial⟩) rfl hg

theorem e108_0 (J : J108) (l_0 : Nat) (c_0 : Nat) (n_1 : Int) : zqe c k q108 u108 (f108 J) d108 Go.Proofs.Tryz.f108 .root (fset (fset f 0 (.str l_0 c_0)) 1 (.int .i64 n_1)) h = s108_0 c k J l_0 c_0 n_1 h := by kernel_rfl
theorem e108_1 (J : J108) (l_0 : Nat) (c_0 : Nat) (n_1 : Int) : zqe c k q108 u108 (f108 J) d108 Go.Proofs.Tryz.f108 (.r (.r .root)) (fset (fset f 0 (.str l_0 c_0)) 1 (.int .i64 n_1)) h = s108_1 c k J l_0 c_0 n_1 (f 4) h := by kernel_rfl
theorem w108 (hc : zqco c) {n : Nat} {a : List AV} (hg : f108 (r108 c k n) 0 (finit a) h) : zqs 108 a h k :=
 zqw hc q108 Go.Proofs.Tryz.func108 rfl (by kernel_rfl) (by kernel_rfl) k u108 (fun n => f108 (r108 c k n)) (fun L _ _ hl => match L, hl with
  | 0, hl => zqnS hl fun _ _ hl => zqnI hl fun _ hl => hl
  | 1, hl => zqnS hl fun _ _ hl => zqnI hl fun _ hl => hl
  | _ + 2, hl => hl) (fun n => ⟨
  fun f h hl => by
    refine zqrS 0 hl fun _ _ hl => ?_; refine zqrI 1 hl fun _ hl => ?_; exact Eq.mpr (e108_0 ..) hl,
  fun f h hl => by
    refine zqrS 0 hl fun _ _ hl => ?_; refine zqrI 1 hl fun _ hl => ?_; exact Eq.mpr (e108_1 ..) hl,
  trivial⟩) rfl hg

theorem e110_0 (J : J110) : zqe c k q110 u110 (f110 J) d110 Go.Proofs.Tryz.f110 .root f h = s110_0 c k J (f 0) (f 1) (f 2) (f 3) h := by kernel_rfl
theorem e110_1 (J : J110) : zqe c k q110 u110 (f110 J) d110 Go.Proofs.Tryz.f110 (.l (.l (.l (.r (.l .root))))) f h = s110_1 c k J (f 0) (f 2) h := by kernel_rfl
theorem e110_2 (J : J110) : zqe c k q110 u110 (f110 J) d110 Go.Proofs.Tryz.f110 (.l (.l (.r .root))) f h = s110_2 c k J (f 0) (f 1) (f 2) (f 3) h := by kernel_rfl
theorem w110 (hc : zqco c) {n : Nat} {a : List AV} (hg : f110 (r110 c k n) 0 (finit a) h) : zqs 110 a h k :=
 zqw hc q110 Go.Proofs.Tryz.func110 rfl (by kernel_rfl) (by kernel_rfl) k u110 (fun n => f110 (r110 c k n)) (fun L _ _ hl => match L, hl with
  | 0, hl => hl
  | 1, hl => hl
  | 2, hl => hl
  | _ + 3, hl => hl) (fun n => ⟨
  fun f h hl => Eq.mpr (e110_0 ..) hl,
  fun f h hl => Eq.mpr (e110_1 ..) hl,
  fun f h hl => Eq.mpr (e110_2 ..) hl,
  trivial⟩) rfl hg

theorem w111 (hc : zqco c) {m : Nat} {a : List AV} (hg : runJ env c q111 u111 d111 (retA env Go.Proofs.Tryz.f111.results.toList k) m 0 (finit a) h) : zqs 111 a h k := fnI_ok mixed envOk hc q111 Go.Proofs.Tryz.func111 rfl (by kernel_rfl) (by kernel_rfl) (by kernel_rfl) (by simp [u111]) hg
theorem e116_0 (J : J116) (l_1 : Nat) (c_1 : Nat) : zqe c k q116 u116 (f116 J) d116 Go.Proofs.Tryz.f116 .root (fset f 1 (.str l_1 c_1)) h = s116_0 c k J (f 0) l_1 c_1 h := by kernel_rfl
theorem w116 (hc : zqco c) {n : Nat} {a : List AV} (hg : f116 (r116 c k n) 0 (finit a) h) : zqs 116 a h k :=
 zqw hc q116 Go.Proofs.Tryz.func116 rfl (by kernel_rfl) (by kernel_rfl) k u116 (fun n => f116 (r116 c k n)) (fun L _ _ hl => match L, hl with
  | 0, hl => zqnS hl fun _ _ hl => hl
  | _ + 1, hl => hl) (fun n => ⟨
  fun f h hl => by
    refine zqrS 1 hl fun _ _ hl => ?_; exact Eq.mpr (e116_0 ..) hl,
  trivial⟩) rfl hg

theorem w117 (hc : zqco c) {m : Nat} {a : List AV} (hg : runJ env c q117 u117 d117 (retA env Go.Proofs.Tryz.f117.results.toList k) m 0 (finit a) h) : zqs 117 a h k := fnI_ok mixed envOk hc q117 Go.Proofs.Tryz.func117 rfl (by kernel_rfl) (by kernel_rfl) (by kernel_rfl) (by simp [u117]) hg
theorem w124 (hc : zqco c) {m : Nat} {a : List AV} (hg : runJ env c q124 u124 d124 (retA env Go.Proofs.Tryz.f124.results.toList k) m 0 (finit a) h) : zqs 124 a h k := fnI_ok mixed envOk hc q124 Go.Proofs.Tryz.func124 rfl (by kernel_rfl) (by kernel_rfl) (by kernel_rfl) (by simp [u124]) hg
theorem e126_0 (J : J126) (l_0 : Nat) (c_0 : Nat) (l_1 : Nat) (c_1 : Nat) : zqe c k q126 u126 (f126 J) d126 Go.Proofs.Tryz.f126 .root (fset (fset f 0 (.str l_0 c_0)) 1 (.str l_1 c_1)) h = s126_0 c k J l_0 c_0 l_1 c_1 h := by kernel_rfl
theorem w126 (hc : zqco c) {n : Nat} {a : List AV} (hg : f126 (r126 c k n) 0 (finit a) h) : zqs 126 a h k :=
 zqw hc q126 Go.Proofs.Tryz.func126 rfl (by kernel_rfl) (by kernel_rfl) k u126 (fun n => f126 (r126 c k n)) (fun L _ _ hl => match L, hl with
  | 0, hl => zqnS hl fun _ _ hl => zqnS hl fun _ _ hl => hl
  | _ + 1, hl => hl) (fun n => ⟨
  fun f h hl => by
    refine zqrS 0 hl fun _ _ hl => ?_; refine zqrS 1 hl fun _ _ hl => ?_; exact Eq.mpr (e126_0 ..) hl,
  trivial⟩) rfl hg

theorem w129 (hc : zqco c) {m : Nat} {a : List AV} (hg : runJ env c q129 u129 d129 (retA env Go.Proofs.Tryz.f129.results.toList k) m 0 (finit a) h) : zqs 129 a h k := fnI_ok mixed envOk hc q129 Go.Proofs.Tryz.func129 rfl (by kernel_rfl) (by kernel_rfl) (by kernel_rfl) (by simp [u129]) hg
theorem e130_0 (J : J130) (n_0 : Int) : zqe c k q130 u130 (f130 J) d130 Go.Proofs.Tryz.f130 .root (fset f 0 (.int .u64 n_0)) h = s130_0 c k J n_0 h := by kernel_rfl
theorem e130_1 (J : J130) (n_0 : Int) (n_2 : Int) : zqe c k q130 u130 (f130 J) d130 Go.Proofs.Tryz.f130 (.r (.r (.r (.r .root)))) (fset (fset f 0 (.int .u64 n_0)) 2 (.int .i64 n_2)) h = s130_1 c k J n_0 n_2 h := by kernel_rfl
theorem e130_2 (J : J130) (n_0 : Int) (n_2 : Int) : zqe c k q130 u130 (f130 J) d130 Go.Proofs.Tryz.f130 (.r (.r (.r .root))) (fset (fset f 0 (.int .u64 n_0)) 2 (.int .i64 n_2)) h = s130_2 c k J n_0 n_2 h := by kernel_rfl
theorem e130_3 (J : J130) (n_0 : Int) (n_2 : Int) : zqe c k q130 u130 (f130 J) d130 Go.Proofs.Tryz.f130 (.r (.r .root)) (fset (fset f 0 (.int .u64 n_0)) 2 (.int .i64 n_2)) h = s130_3 c k J n_0 n_2 h := by kernel_rfl
theorem w130 (hc : zqco c) {n : Nat} {a : List AV} (hg : f130 (r130 c k n) 0 (finit a) h) : zqs 130 a h k :=
 zqw hc q130 Go.Proofs.Tryz.func130 rfl (by kernel_rfl) (by kernel_rfl) k u130 (fun n => f130 (r130 c k n)) (fun L _ _ hl => match L, hl with
  | 0, hl => zqnI hl fun _ hl => hl
  | 1, hl => zqnI hl fun _ hl => zqnI hl fun _ hl => hl
  | 2, hl => zqnI hl fun _ hl => zqnI hl fun _ hl => hl
  | 3, hl => zqnI hl fun _ hl => zqnI hl fun _ hl => hl
  | _ + 4, hl => hl) (fun n => ⟨
  fun f h hl => by
    refine zqrI 0 hl fun _ hl => ?_; exact Eq.mpr (e130_0 ..) hl,
  fun f h hl => by
    refine zqrI 0 hl fun _ hl => ?_; refine zqrI 2 hl fun _ hl => ?_; exact Eq.mpr (e130_1 ..) hl,
  fun f h hl => by
    refine zqrI 0 hl fun _ hl => ?_; refine zqrI 2 hl fun _ hl => ?_; exact Eq.mpr (e130_2 ..) hl,
  fun f h hl => by
    refine zqrI 0 hl fun _ hl => ?_; refine zqrI 2 hl fun _ hl => ?_; exact Eq.mpr (e130_3 ..) hl,
  trivial⟩) rfl hg

theorem e133_0 (J : J133) : zqe c k q133 u133 (f133 J) d133 Go.Proofs.Tryz.f133 .root f h = s133_0 c k J (f 0) h := by kernel_rfl
theorem e133_1 (J : J133) (n_3 : Int) : zqe c k q133 u133 (f133 J) d133 Go.Proofs.Tryz.f133 (.l (.r (.l (.l (.r (.l (.r (.r .root)))))))) (fset f 3 (.int .i64 n_3)) h = s133_1 c k J (f 0) n_3 h := by kernel_rfl
theorem w133 (hc : zqco c) {n : Nat} {a : List AV} (hg : f133 (r133 c k n) 0 (finit a) h) : zqs 133 a h k :=
 zqw hc q133 Go.Proofs.Tryz.func133 rfl (by kernel_rfl) (by kernel_rfl) k u133 (fun n => f133 (r133 c k n)) (fun L _ _ hl => match L, hl with
  | 0, hl => hl
  | 1, hl => zqnI hl fun _ hl => hl
  | _ + 2, hl => hl) (fun n => ⟨
  fun f h hl => Eq.mpr (e133_0 ..) hl,
  fun f h hl => by
    refine zqrI 3 hl fun _ hl => ?_; exact Eq.mpr (e133_1 ..) hl,
  trivial⟩) rfl hg

theorem e134_0 (J : J134) (n_1 : Int) (n_2 : Int) : zqe c k q134 u134 (f134 J) d134 Go.Proofs.Tryz.f134 .root (fset (fset f 1 (.int .i64 n_1)) 2 (.int .i64 n_2)) h = s134_0 c k J (f 0) n_1 n_2 h := by kernel_rfl
theorem w134 (hc : zqco c) {n : Nat} {a : List AV} (hg : f134 (r134 c k n) 0 (finit a) h) : zqs 134 a h k :=
 zqw hc q134 Go.Proofs.Tryz.func134 rfl (by kernel_rfl) (by kernel_rfl) k u134 (fun n => f134 (r134 c k n)) (fun L _ _ hl => match L, hl with
  | 0, hl => zqnI hl fun _ hl => zqnI hl fun _ hl => hl
  | _ + 1, hl => hl) (fun n => ⟨
  fun f h hl => by
    refine zqrI 1 hl fun _ hl => ?_; refine zqrI 2 hl fun _ hl => ?_; exact Eq.mpr (e134_0 ..) hl,
  trivial⟩) rfl hg

theorem w142 (hc : zqco c) {m : Nat} {a : List AV} (hg : runJ env c q142 u142 d142 (retA env Go.Proofs.Tryz.f142.results.toList k) m 0 (finit a) h) : zqs 142 a h k := fnI_ok mixed envOk hc q142 Go.Proofs.Tryz.func142 rfl (by kernel_rfl) (by kernel_rfl) (by kernel_rfl) (by simp [u142]) hg
theorem e146_0 (J : J146) : zqe c k q146 u146 (f146 J) d146 Go.Proofs.Tryz.f146 .root f h = s146_0 c k J (f 0) (f 1) h := by kernel_rfl
theorem e146_1 (J : J146) (n_8 : Int) (n_9 : Int) : zqe c k q146 u146 (f146 J) d146 Go.Proofs.Tryz.f146 (.l (.r (.l (.r .root)))) (fset (fset f 8 (.int .i64 n_8)) 9 (.int .i64 n_9)) h = s146_1 c k J (f 1) (f 4) (f 7) n_8 n_9 h := by kernel_rfl
theorem w146 (hc : zqco c) {n : Nat} {a : List AV} (hg : f146 (r146 c k n) 0 (finit a) h) : zqs 146 a h k :=
 zqw hc q146 Go.Proofs.Tryz.func146 rfl (by kernel_rfl) (by kernel_rfl) k u146 (fun n => f146 (r146 c k n)) (fun L _ _ hl => match L, hl with
  | 0, hl => hl
  | 1, hl => zqnI hl fun _ hl => zqnI hl fun _ hl => hl
  | _ + 2, hl => hl) (fun n => ⟨
  fun f h hl => Eq.mpr (e146_0 ..) hl,
  fun f h hl => by
    refine zqrI 8 hl fun _ hl => ?_; refine zqrI 9 hl fun _ hl => ?_; exact Eq.mpr (e146_1 ..) hl,
  trivial⟩) rfl hg

theorem e151_0 (J : J151) : zqe c k q151 u151 (f151 J) d151 Go.Proofs.Tryz.f151 .root f h = s151_0 c k J (f 0) h := by kernel_rfl
theorem w151 (hc : zqco c) {n : Nat} {a : List AV} (hg : f151 (r151 c k n) 0 (finit a) h) : zqs 151 a h k :=
 zqw hc q151 Go.Proofs.Tryz.func151 rfl (by kernel_rfl) (by kernel_rfl) k u151 (fun n => f151 (r151 c k n)) (fun L _ _ hl => match L, hl with
  | 0, hl => hl
  | _ + 1, hl => hl) (fun n => ⟨
  fun f h hl => Eq.mpr (e151_0 ..) hl,
  trivial⟩) rfl hg

theorem w157 (hc : zqco c) {m : Nat} {a : List AV} (hg : runJ env c q157 u157 d157 (retA env Go.Proofs.Tryz.f157.results.toList k) m 0 (finit a) h) : zqs 157 a h k := fnI_ok mixed envOk hc q157 Go.Proofs.Tryz.func157 rfl (by kernel_rfl) (by kernel_rfl) (by kernel_rfl) (by simp [u157]) hg
theorem e161_0 (J : J161) : zqe c k q161 u161 (f161 J) d161 Go.Proofs.Tryz.f161 .root f h = s161_0 c k J  h := by kernel_rfl
theorem w161 (hc : zqco c) {n : Nat} {a : List AV} (hg : f161 (r161 c k n) 0 (finit a) h) : zqs 161 a h k :=
 zqw hc q161 Go.Proofs.Tryz.func161 rfl (by kernel_rfl) (by kernel_rfl) k u161 (fun n => f161 (r161 c k n)) (fun L _ _ hl => match L, hl with
  | 0, hl => hl
  | _ + 1, hl => hl) (fun n => ⟨
  fun f h hl => Eq.mpr (e161_0 ..) hl,
  trivial⟩) rfl hg

theorem w166 (hc : zqco c) {m : Nat} {a : List AV} (hg : runJ env c q166 u166 d166 (retA env Go.Proofs.Tryz.f166.results.toList k) m 0 (finit a) h) : zqs 166 a h k := fnI_ok mixed envOk hc q166 Go.Proofs.Tryz.func166 rfl (by kernel_rfl) (by kernel_rfl) (by kernel_rfl) (by simp [u166]) hg
theorem w172 (hc : zqco c) {m : Nat} {a : List AV} (hg : runJ env c q172 u172 d172 (retA env Go.Proofs.Tryz.f172.results.toList k) m 0 (finit a) h) : zqs 172 a h k := fnI_ok mixed envOk hc q172 Go.Proofs.Tryz.func172 rfl (by kernel_rfl) (by kernel_rfl) (by kernel_rfl) (by simp [u172]) hg
theorem e177_0 (J : J177) (l_1 : Nat) (c_1 : Nat) : zqe c k q177 u177 (f177 J) d177 Go.Proofs.Tryz.f177 .root (fset f 1 (.str l_1 c_1)) h = s177_0 c k J (f 0) l_1 c_1 h := by kernel_rfl
theorem e177_1 (J : J177) (l_1 : Nat) (c_1 : Nat) (n_20 : Int) (n_21 : Int) : zqe c k q177 u177 (f177 J) d177 Go.Proofs.Tryz.f177 (.l (.r (.l (.r (.r .root))))) (fset (fset (fset f 1 (.str l_1 c_1)) 20 (.int .i64 n_20)) 21 (.int .i64 n_21)) h = s177_1 c k J (f 0) l_1 c_1 n_20 n_21 h := by kernel_rfl
theorem w177 (hc : zqco c) {n : Nat} {a : List AV} (hg : f177 (r177 c k n) 0 (finit a) h) : zqs 177 a h k :=
 zqw hc q177 Go.Proofs.Tryz.func177 rfl (by kernel_rfl) (by kernel_rfl) k u177 (fun n => f177 (r177 c k n)) (fun L _ _ hl => match L, hl with
  | 0, hl => zqnS hl fun _ _ hl => hl
  | 1, hl => zqnS hl fun _ _ hl => zqnI hl fun _ hl => zqnI hl fun _ hl => hl
  | _ + 2, hl => hl) (fun n => ⟨
  fun f h hl => by
    refine zqrS 1 hl fun _ _ hl => ?_; exact Eq.mpr (e177_0 ..) hl,
  fun f h hl => by
    refine zqrS 1 hl fun _ _ hl => ?_; refine zqrI 20 hl fun _ hl => ?_; refine zqrI 21 hl fun _ hl => ?_; exact Eq.mpr (e177_1 ..) hl,
  trivial⟩) rfl hg

theorem e184_0 (J : J184) (l_0 : Nat) (c_0 : Nat) : zqe c k q184 u184 (f184 J) d184 Go.Proofs.Tryz.f184 .root (fset f 0 (.str l_0 c_0)) h = s184_0 c k J l_0 c_0 h := by kernel_rfl
theorem w184 (hc : zqco c) {n : Nat} {a : List AV} (hg : f184 (r184 c k n) 0 (finit a) h) : zqs 184 a h k :=
 zqw hc q184 Go.Proofs.Tryz.func184 rfl (by kernel_rfl) (by kernel_rfl) k u184 (fun n => f184 (r184 c k n)) (fun L _ _ hl => match L, hl with
  | 0, hl => zqnS hl fun _ _ hl => hl
  | _ + 1, hl => hl) (fun n => ⟨
  fun f h hl => by
    refine zqrS 0 hl fun _ _ hl => ?_; exact Eq.mpr (e184_0 ..) hl,
  trivial⟩) rfl hg

theorem w185 (hc : zqco c) {m : Nat} {a : List AV} (hg : runJ env c q185 u185 d185 (retA env Go.Proofs.Tryz.f185.results.toList k) m 0 (finit a) h) : zqs 185 a h k := fnI_ok mixed envOk hc q185 Go.Proofs.Tryz.func185 rfl (by kernel_rfl) (by kernel_rfl) (by kernel_rfl) (by simp [u185]) hg
theorem e192_0 (J : J192) : zqe c k q192 u192 (f192 J) d192 Go.Proofs.Tryz.f192 .root f h = s192_0 c k J (f 0) (f 1) h := by kernel_rfl
theorem w192 (hc : zqco c) {n : Nat} {a : List AV} (hg : f192 (r192 c k n) 0 (finit a) h) : zqs 192 a h k :=
 zqw hc q192 Go.Proofs.Tryz.func192 rfl (by kernel_rfl) (by kernel_rfl) k u192 (fun n => f192 (r192 c k n)) (fun L _ _ hl => match L, hl with
  | 0, hl => hl
  | _ + 1, hl => hl) (fun n => ⟨
  fun f h hl => Eq.mpr (e192_0 ..) hl,
  trivial⟩) rfl hg

theorem e193_0 (J : J193) (n_1 : Int) : zqe c k q193 u193 (f193 J) d193 Go.Proofs.Tryz.f193 .root (fset f 1 (.int .i64 n_1)) h = s193_0 c k J (f 0) n_1 h := by kernel_rfl
theorem w193 (hc : zqco c) {n : Nat} {a : List AV} (hg : f193 (r193 c k n) 0 (finit a) h) : zqs 193 a h k :=
 zqw hc q193 Go.Proofs.Tryz.func193 rfl (by kernel_rfl) (by kernel_rfl) k u193 (fun n => f193 (r193 c k n)) (fun L _ _ hl => match L, hl with
  | 0, hl => zqnI hl fun _ hl => hl
  | _ + 1, hl => hl) (fun n => ⟨
  fun f h hl => by
    refine zqrI 1 hl fun _ hl => ?_; exact Eq.mpr (e193_0 ..) hl,
  trivial⟩) rfl hg

theorem w203 (hc : zqco c) {m : Nat} {a : List AV} (hg : runJ env c q203 u203 d203 (retA env Go.Proofs.Tryz.f203.results.toList k) m 0 (finit a) h) : zqs 203 a h k := fnI_ok mixed envOk hc q203 Go.Proofs.Tryz.func203 rfl (by kernel_rfl) (by kernel_rfl) (by kernel_rfl) (by simp [u203]) hg
theorem w209 (hc : zqco c) {m : Nat} {a : List AV} (hg : runJ env c q209 u209 d209 (retA env Go.Proofs.Tryz.f209.results.toList k) m 0 (finit a) h) : zqs 209 a h k := fnI_ok mixed envOk hc q209 Go.Proofs.Tryz.func209 rfl (by kernel_rfl) (by kernel_rfl) (by kernel_rfl) (by simp [u209]) hg
theorem w216 (hc : zqco c) {m : Nat} {a : List AV} (hg : runJ env c q216 u216 d216 (retA env Go.Proofs.Tryz.f216.results.toList k) m 0 (finit a) h) : zqs 216 a h k := fnI_ok mixed envOk hc q216 Go.Proofs.Tryz.func216 rfl (by kernel_rfl) (by kernel_rfl) (by kernel_rfl) (by simp [u216]) hg
theorem w223 (hc : zqco c) {m : Nat} {a : List AV} (hg : runJ env c q223 u223 d223 (retA env Go.Proofs.Tryz.f223.results.toList k) m 0 (finit a) h) : zqs 223 a h k := fnI_ok mixed envOk hc q223 Go.Proofs.Tryz.func223 rfl (by kernel_rfl) (by kernel_rfl) (by kernel_rfl) (by simp [u223]) hg
theorem e228_0 (J : J228) : zqe c k q228 u228 (f228 J) d228 Go.Proofs.Tryz.f228 .root f h = s228_0 c k J (f 0) h := by kernel_rfl
theorem w228 (hc : zqco c) {n : Nat} {a : List AV} (hg : f228 (r228 c k n) 0 (finit a) h) : zqs 228 a h k :=
 zqw hc q228 Go.Proofs.Tryz.func228 rfl (by kernel_rfl) (by kernel_rfl) k u228 (fun n => f228 (r228 c k n)) (fun L _ _ hl => match L, hl with
  | 0, hl => hl
  | _ + 1, hl => hl) (fun n => ⟨
  fun f h hl => Eq.mpr (e228_0 ..) hl,
  trivial⟩) rfl hg

theorem w230 (hc : zqco c) {m : Nat} {a : List AV} (hg : runJ env c q230 u230 d230 (retA env Go.Proofs.Tryz.f230.results.toList k) m 0 (finit a) h) : zqs 230 a h k := fnI_ok mixed envOk hc q230 Go.Proofs.Tryz.func230 rfl (by kernel_rfl) (by kernel_rfl) (by kernel_rfl) (by simp [u230]) hg
theorem e231_0 (J : J231) : zqe c k q231 u231 (f231 J) d231 Go.Proofs.Tryz.f231 .root f h = s231_0 c k J (f 0) h := by kernel_rfl
theorem e231_1 (J : J231) (n_6 : Int) (n_7 : Int) : zqe c k q231 u231 (f231 J) d231 Go.Proofs.Tryz.f231 (.l (.r (.l (.r .root)))) (fset (fset f 6 (.int .i64 n_6)) 7 (.int .i64 n_7)) h = s231_1 c k J (f 2) (f 5) n_6 n_7 h := by kernel_rfl
theorem w231 (hc : zqco c) {n : Nat} {a : List AV} (hg : f231 (r231 c k n) 0 (finit a) h) : zqs 231 a h k :=
 zqw hc q231 Go.Proofs.Tryz.func231 rfl (by kernel_rfl) (by kernel_rfl) k u231 (fun n => f231 (r231 c k n)) (fun L _ _ hl => match L, hl with
  | 0, hl => hl
  | 1, hl => zqnI hl fun _ hl => zqnI hl fun _ hl => hl
  | _ + 2, hl => hl) (fun n => ⟨
  fun f h hl => Eq.mpr (e231_0 ..) hl,
  fun f h hl => by
    refine zqrI 6 hl fun _ hl => ?_; refine zqrI 7 hl fun _ hl => ?_; exact Eq.mpr (e231_1 ..) hl,
  trivial⟩) rfl hg

theorem w240 (hc : zqco c) {m : Nat} {a : List AV} (hg : runJ env c q240 u240 d240 (retA env Go.Proofs.Tryz.f240.results.toList k) m 0 (finit a) h) : zqs 240 a h k := fnI_ok mixed envOk hc q240 Go.Proofs.Tryz.func240 rfl (by kernel_rfl) (by kernel_rfl) (by kernel_rfl) (by simp [u240]) hg
theorem w244 (hc : zqco c) {m : Nat} {a : List AV} (hg : runJ env c q244 u244 d244 (retA env Go.Proofs.Tryz.f244.results.toList k) m 0 (finit a) h) : zqs 244 a h k := fnI_ok mixed envOk hc q244 Go.Proofs.Tryz.func244 rfl (by kernel_rfl) (by kernel_rfl) (by kernel_rfl) (by simp [u244]) hg
theorem e247_0 (J : J247) : zqe c k q247 u247 (f247 J) d247 Go.Proofs.Tryz.f247 .root f h = s247_0 c k J (f 0) (f 1) h := by kernel_rfl
theorem e247_1 (J : J247) (l_6 : Nat) (c_6 : Nat) : zqe c k q247 u247 (f247 J) d247 Go.Proofs.Tryz.f247 (.r (.r (.r (.r (.r (.r (.l (.r .root)))))))) (fset f 6 (.str l_6 c_6)) h = s247_1 c k J (f 0) (f 1) l_6 c_6 h := by kernel_rfl
theorem e247_2 (J : J247) : zqe c k q247 u247 (f247 J) d247 Go.Proofs.Tryz.f247 (.lab (.r .root) 0) f h = s247_2 c k J (f 0) (f 1) h := by kernel_rfl
theorem e247_3 (J : J247) (l_6 : Nat) (c_6 : Nat) : zqe c k q247 u247 (f247 J) d247 Go.Proofs.Tryz.f247 (.r (.r (.r (.r (.lab (.r .root) 0))))) (fset f 6 (.str l_6 c_6)) h = s247_3 c k J (f 0) (f 1) l_6 c_6 h := by kernel_rfl
theorem w247 (hc : zqco c) {n : Nat} {a : List AV} (hg : f247 (r247 c k n) 0 (finit a) h) : zqs 247 a h k :=
 zqw hc q247 Go.Proofs.Tryz.func247 rfl (by kernel_rfl) (by kernel_rfl) k u247 (fun n => f247 (r247 c k n)) (fun L _ _ hl => match L, hl with
  | 0, hl => hl
  | 1, hl => zqnS hl fun _ _ hl => hl
  | 2, hl => hl
  | 3, hl => zqnS hl fun _ _ hl => hl
  | _ + 4, hl => hl) (fun n => ⟨
  fun f h hl => Eq.mpr (e247_0 ..) hl,
  fun f h hl => by
    refine zqrS 6 hl fun _ _ hl => ?_; exact Eq.mpr (e247_1 ..) hl,
  fun f h hl => Eq.mpr (e247_2 ..) hl,
  fun f h hl => by
    refine zqrS 6 hl fun _ _ hl => ?_; exact Eq.mpr (e247_3 ..) hl,
  trivial⟩) rfl hg

theorem w251 (hc : zqco c) {m : Nat} {a : List AV} (hg : runJ env c q251 u251 d251 (retA env Go.Proofs.Tryz.f251.results.toList k) m 0 (finit a) h) : zqs 251 a h k := fnI_ok mixed envOk hc q251 Go.Proofs.Tryz.func251 rfl (by kernel_rfl) (by kernel_rfl) (by kernel_rfl) (by simp [u251]) hg
theorem w257 (hc : zqco c) {m : Nat} {a : List AV} (hg : runJ env c q257 u257 d257 (retA env Go.Proofs.Tryz.f257.results.toList k) m 0 (finit a) h) : zqs 257 a h k := fnI_ok mixed envOk hc q257 Go.Proofs.Tryz.func257 rfl (by kernel_rfl) (by kernel_rfl) (by kernel_rfl) (by simp [u257]) hg
theorem e263_0 (J : J263) : zqe c k q263 u263 (f263 J) d263 Go.Proofs.Tryz.f263 .root f h = s263_0 c k J (f 0) h := by kernel_rfl
theorem e263_1 (J : J263) : zqe c k q263 u263 (f263 J) d263 Go.Proofs.Tryz.f263 (.r .root) f h = s263_1 c k J (f 0) h := by kernel_rfl
theorem w263 (hc : zqco c) {n : Nat} {a : List AV} (hg : f263 (r263 c k n) 0 (finit a) h) : zqs 263 a h k :=
 zqw hc q263 Go.Proofs.Tryz.func263 rfl (by kernel_rfl) (by kernel_rfl) k u263 (fun n => f263 (r263 c k n)) (fun L _ _ hl => match L, hl with
  | 0, hl => hl
  | 1, hl => hl
  | _ + 2, hl => hl) (fun n => ⟨
  fun f h hl => Eq.mpr (e263_0 ..) hl,
  fun f h hl => Eq.mpr (e263_1 ..) hl,
  trivial⟩) rfl hg

theorem w267 (hc : zqco c) {m : Nat} {a : List AV} (hg : runJ env c q267 u267 d267 (retA env Go.Proofs.Tryz.f267.results.toList k) m 0 (finit a) h) : zqs 267 a h k := fnI_ok mixed envOk hc q267 Go.Proofs.Tryz.func267 rfl (by kernel_rfl) (by kernel_rfl) (by kernel_rfl) (by simp [u267]) hg
theorem w272 (hc : zqco c) {m : Nat} {a : List AV} (hg : runJ env c q272 u272 d272 (retA env Go.Proofs.Tryz.f272.results.toList k) m 0 (finit a) h) : zqs 272 a h k := fnI_ok mixed envOk hc q272 Go.Proofs.Tryz.func272 rfl (by kernel_rfl) (by kernel_rfl) (by kernel_rfl) (by simp [u272]) hg
theorem w277 (hc : zqco c) {m : Nat} {a : List AV} (hg : runJ env c q277 u277 d277 (retA env Go.Proofs.Tryz.f277.results.toList k) m 0 (finit a) h) : zqs 277 a h k := fnI_ok mixed envOk hc q277 Go.Proofs.Tryz.func277 rfl (by kernel_rfl) (by kernel_rfl) (by kernel_rfl) (by simp [u277]) hg
theorem w281 (hc : zqco c) {m : Nat} {a : List AV} (hg : runJ env c q281 u281 d281 (retA env Go.Proofs.Tryz.f281.results.toList k) m 0 (finit a) h) : zqs 281 a h k := fnI_ok mixed envOk hc q281 Go.Proofs.Tryz.func281 rfl (by kernel_rfl) (by kernel_rfl) (by kernel_rfl) (by simp [u281]) hg
theorem w290 (hc : zqco c) {m : Nat} {a : List AV} (hg : runJ env c q290 u290 d290 (retA env Go.Proofs.Tryz.f290.results.toList k) m 0 (finit a) h) : zqs 290 a h k := fnI_ok mixed envOk hc q290 Go.Proofs.Tryz.func290 rfl (by kernel_rfl) (by kernel_rfl) (by kernel_rfl) (by simp [u290]) hg
theorem w296 (hc : zqco c) {m : Nat} {a : List AV} (hg : runJ env c q296 u296 d296 (retA env Go.Proofs.Tryz.f296.results.toList k) m 0 (finit a) h) : zqs 296 a h k := fnI_ok mixed envOk hc q296 Go.Proofs.Tryz.func296 rfl (by kernel_rfl) (by kernel_rfl) (by kernel_rfl) (by simp [u296]) hg
theorem w300 (hc : zqco c) {m : Nat} {a : List AV} (hg : runJ env c q300 u300 d300 (retA env Go.Proofs.Tryz.f300.results.toList k) m 0 (finit a) h) : zqs 300 a h k := fnI_ok mixed envOk hc q300 Go.Proofs.Tryz.func300 rfl (by kernel_rfl) (by kernel_rfl) (by kernel_rfl) (by simp [u300]) hg
theorem w304 (hc : zqco c) {m : Nat} {a : List AV} (hg : runJ env c q304 u304 d304 (retA env Go.Proofs.Tryz.f304.results.toList k) m 0 (finit a) h) : zqs 304 a h k := fnI_ok mixed envOk hc q304 Go.Proofs.Tryz.func304 rfl (by kernel_rfl) (by kernel_rfl) (by kernel_rfl) (by simp [u304]) hg
theorem w308 (hc : zqco c) {m : Nat} {a : List AV} (hg : runJ env c q308 u308 d308 (retA env Go.Proofs.Tryz.f308.results.toList k) m 0 (finit a) h) : zqs 308 a h k := fnI_ok mixed envOk hc q308 Go.Proofs.Tryz.func308 rfl (by kernel_rfl) (by kernel_rfl) (by kernel_rfl) (by simp [u308]) hg
theorem w312 (hc : zqco c) {m : Nat} {a : List AV} (hg : runJ env c q312 u312 d312 (retA env Go.Proofs.Tryz.f312.results.toList k) m 0 (finit a) h) : zqs 312 a h k := fnI_ok mixed envOk hc q312 Go.Proofs.Tryz.func312 rfl (by kernel_rfl) (by kernel_rfl) (by kernel_rfl) (by simp [u312]) hg
theorem w316 (hc : zqco c) {m : Nat} {a : List AV} (hg : runJ env c q316 u316 d316 (retA env Go.Proofs.Tryz.f316.results.toList k) m 0 (finit a) h) : zqs 316 a h k := fnI_ok mixed envOk hc q316 Go.Proofs.Tryz.func316 rfl (by kernel_rfl) (by kernel_rfl) (by kernel_rfl) (by simp [u316]) hg
theorem w329 (hc : zqco c) {m : Nat} {a : List AV} (hg : runJ env c q329 u329 d329 (retA env Go.Proofs.Tryz.f329.results.toList k) m 0 (finit a) h) : zqs 329 a h k := fnI_ok mixed envOk hc q329 Go.Proofs.Tryz.func329 rfl (by kernel_rfl) (by kernel_rfl) (by kernel_rfl) (by simp [u329]) hg
theorem w333 (hc : zqco c) {m : Nat} {a : List AV} (hg : runJ env c q333 u333 d333 (retA env Go.Proofs.Tryz.f333.results.toList k) m 0 (finit a) h) : zqs 333 a h k := fnI_ok mixed envOk hc q333 Go.Proofs.Tryz.func333 rfl (by kernel_rfl) (by kernel_rfl) (by kernel_rfl) (by simp [u333]) hg
theorem w337 (hc : zqco c) {m : Nat} {a : List AV} (hg : runJ env c q337 u337 d337 (retA env Go.Proofs.Tryz.f337.results.toList k) m 0 (finit a) h) : zqs 337 a h k := fnI_ok mixed envOk hc q337 Go.Proofs.Tryz.func337 rfl (by kernel_rfl) (by kernel_rfl) (by kernel_rfl) (by simp [u337]) hg
theorem w341 (hc : zqco c) {m : Nat} {a : List AV} (hg : runJ env c q341 u341 d341 (retA env Go.Proofs.Tryz.f341.results.toList k) m 0 (finit a) h) : zqs 341 a h k := fnI_ok mixed envOk hc q341 Go.Proofs.Tryz.func341 rfl (by kernel_rfl) (by kernel_rfl) (by kernel_rfl) (by simp [u341]) hg
theorem w348 (hc : zqco c) {m : Nat} {a : List AV} (hg : runJ env c q348 u348 d348 (retA env Go.Proofs.Tryz.f348.results.toList k) m 0 (finit a) h) : zqs 348 a h k := fnI_ok mixed envOk hc q348 Go.Proofs.Tryz.func348 rfl (by kernel_rfl) (by kernel_rfl) (by kernel_rfl) (by simp [u348]) hg
theorem w352 (hc : zqco c) {m : Nat} {a : List AV} (hg : runJ env c q352 u352 d352 (retA env Go.Proofs.Tryz.f352.results.toList k) m 0 (finit a) h) : zqs 352 a h k := fnI_ok mixed envOk hc q352 Go.Proofs.Tryz.func352 rfl (by kernel_rfl) (by kernel_rfl) (by kernel_rfl) (by simp [u352]) hg
theorem w356 (hc : zqco c) {m : Nat} {a : List AV} (hg : runJ env c q356 u356 d356 (retA env Go.Proofs.Tryz.f356.results.toList k) m 0 (finit a) h) : zqs 356 a h k := fnI_ok mixed envOk hc q356 Go.Proofs.Tryz.func356 rfl (by kernel_rfl) (by kernel_rfl) (by kernel_rfl) (by simp [u356]) hg
theorem w362 (hc : zqco c) {m : Nat} {a : List AV} (hg : runJ env c q362 u362 d362 (retA env Go.Proofs.Tryz.f362.results.toList k) m 0 (finit a) h) : zqs 362 a h k := fnI_ok mixed envOk hc q362 Go.Proofs.Tryz.func362 rfl (by kernel_rfl) (by kernel_rfl) (by kernel_rfl) (by simp [u362]) hg
theorem w367 (hc : zqco c) {m : Nat} {a : List AV} (hg : runJ env c q367 u367 d367 (retA env Go.Proofs.Tryz.f367.results.toList k) m 0 (finit a) h) : zqs 367 a h k := fnI_ok mixed envOk hc q367 Go.Proofs.Tryz.func367 rfl (by kernel_rfl) (by kernel_rfl) (by kernel_rfl) (by simp [u367]) hg
end Go.Den
