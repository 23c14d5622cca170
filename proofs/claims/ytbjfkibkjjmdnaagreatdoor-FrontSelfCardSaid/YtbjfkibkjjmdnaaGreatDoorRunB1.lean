/-
  A part of the proof: the pieces are what the program does.
-/
import Derived.Test.YtbjfkibkjjmdnaaGreatDoorRunA1
import Derived.Test.YtbjfkibkjjmdnaaGreatDoorRunA2
import Derived.KernelRfl
namespace Go.Den
set_option maxRecDepth 100000
variable {c : Caller Prop FT} {k : KV} {f : FT} {h : H}
theorem e21_0 (J : J21) : zqe c k q21 u21 (f21 J) d21 Go.Proofs.Tryz.f21 .root f h = s21_0 c k J (f 0) h := by kernel_rfl
theorem w21 (hc : zqco c) {n : Nat} {a : List AV} (hg : f21 (r21 c k n) 0 (finit a) h) : zqs 21 a h k :=
 zqw hc q21 Go.Proofs.Tryz.func21 rfl (by kernel_rfl) (by kernel_rfl) k u21 (fun n => f21 (r21 c k n)) (fun L _ _ hl => match L, hl with
  | 0, hl => hl
  | _ + 1, hl => hl) (fun n => ⟨
  fun f h hl => Eq.mpr (e21_0 ..) hl,
  trivial⟩) rfl hg

theorem w35 (hc : zqco c) {m : Nat} {a : List AV} (hg : runJ env c q35 u35 d35 (retA env Go.Proofs.Tryz.f35.results.toList k) m 0 (finit a) h) : zqs 35 a h k := fnI_ok mixed envOk hc q35 Go.Proofs.Tryz.func35 rfl (by kernel_rfl) (by kernel_rfl) (by kernel_rfl) (by simp [u35]) hg
theorem e40_0 (J : J40) (l_1 : Nat) (c_1 : Nat) (n_3 : Int) : zqe c k q40 u40 (f40 J) d40 Go.Proofs.Tryz.f40 .root (fset (fset f 1 (.str l_1 c_1)) 3 (.int .i64 n_3)) h = s40_0 c k J (f 0) l_1 c_1 (f 2) n_3 h := by kernel_rfl
theorem w40 (hc : zqco c) {n : Nat} {a : List AV} (hg : f40 (r40 c k n) 0 (finit a) h) : zqs 40 a h k :=
 zqw hc q40 Go.Proofs.Tryz.func40 rfl (by kernel_rfl) (by kernel_rfl) k u40 (fun n => f40 (r40 c k n)) (fun L _ _ hl => match L, hl with
  | 0, hl => zqnS hl fun _ _ hl => zqnI hl fun _ hl => hl
  | _ + 1, hl => hl) (fun n => ⟨
  fun f h hl => by
    refine zqrS 1 hl fun _ _ hl => ?_; refine zqrI 3 hl fun _ hl => ?_; exact Eq.mpr (e40_0 ..) hl,
  trivial⟩) rfl hg

theorem e41_0 (J : J41) (l_1 : Nat) (c_1 : Nat) : zqe c k q41 u41 (f41 J) d41 Go.Proofs.Tryz.f41 .root (fset f 1 (.str l_1 c_1)) h = s41_0 c k J (f 0) l_1 c_1 h := by kernel_rfl
theorem e41_1 (J : J41) (l_1 : Nat) (c_1 : Nat) (n_6 : Int) : zqe c k q41 u41 (f41 J) d41 Go.Proofs.Tryz.f41 (.l (.l (.r (.r .root)))) (fset (fset f 1 (.str l_1 c_1)) 6 (.int .i64 n_6)) h = s41_1 c k J (f 0) l_1 c_1 n_6 h := by kernel_rfl
theorem w41 (hc : zqco c) {n : Nat} {a : List AV} (hg : f41 (r41 c k n) 0 (finit a) h) : zqs 41 a h k :=
 zqw hc q41 Go.Proofs.Tryz.func41 rfl (by kernel_rfl) (by kernel_rfl) k u41 (fun n => f41 (r41 c k n)) (fun L _ _ hl => match L, hl with
  | 0, hl => zqnS hl fun _ _ hl => hl
  | 1, hl => zqnS hl fun _ _ hl => zqnI hl fun _ hl => hl
  | _ + 2, hl => hl) (fun n => ⟨
  fun f h hl => by
    refine zqrS 1 hl fun _ _ hl => ?_; exact Eq.mpr (e41_0 ..) hl,
  fun f h hl => by
    refine zqrS 1 hl fun _ _ hl => ?_; refine zqrI 6 hl fun _ hl => ?_; exact Eq.mpr (e41_1 ..) hl,
  trivial⟩) rfl hg

theorem e44_0 (J : J44) (l_1 : Nat) (c_1 : Nat) : zqe c k q44 u44 (f44 J) d44 Go.Proofs.Tryz.f44 .root (fset f 1 (.str l_1 c_1)) h = s44_0 c k J (f 0) l_1 c_1 h := by kernel_rfl
theorem w44 (hc : zqco c) {n : Nat} {a : List AV} (hg : f44 (r44 c k n) 0 (finit a) h) : zqs 44 a h k :=
 zqw hc q44 Go.Proofs.Tryz.func44 rfl (by kernel_rfl) (by kernel_rfl) k u44 (fun n => f44 (r44 c k n)) (fun L _ _ hl => match L, hl with
  | 0, hl => zqnS hl fun _ _ hl => hl
  | _ + 1, hl => hl) (fun n => ⟨
  fun f h hl => by
    refine zqrS 1 hl fun _ _ hl => ?_; exact Eq.mpr (e44_0 ..) hl,
  trivial⟩) rfl hg

theorem e45_0 (J : J45) : zqe c k q45 u45 (f45 J) d45 Go.Proofs.Tryz.f45 .root f h = s45_0 c k J  h := by kernel_rfl
theorem w45 (hc : zqco c) {n : Nat} {a : List AV} (hg : f45 (r45 c k n) 0 (finit a) h) : zqs 45 a h k :=
 zqw hc q45 Go.Proofs.Tryz.func45 rfl (by kernel_rfl) (by kernel_rfl) k u45 (fun n => f45 (r45 c k n)) (fun L _ _ hl => match L, hl with
  | 0, hl => hl
  | _ + 1, hl => hl) (fun n => ⟨
  fun f h hl => Eq.mpr (e45_0 ..) hl,
  trivial⟩) rfl hg

theorem e47_0 (J : J47) (l_1 : Nat) (c_1 : Nat) : zqe c k q47 u47 (f47 J) d47 Go.Proofs.Tryz.f47 .root (fset f 1 (.str l_1 c_1)) h = s47_0 c k J (f 0) l_1 c_1 h := by kernel_rfl
theorem e47_1 (J : J47) (n_70 : Int) (n_71 : Int) : zqe c k q47 u47 (f47 J) d47 Go.Proofs.Tryz.f47 (.l (.r (.l (.r (.r (.r (.r (.r (.r (.r .root)))))))))) (fset (fset f 70 (.int .i64 n_70)) 71 (.int .i64 n_71)) h = s47_1 c k J (f 0) (f 69) n_70 n_71 h := by kernel_rfl
theorem e47_2 (J : J47) : zqe c k q47 u47 (f47 J) d47 Go.Proofs.Tryz.f47 (.r (.r (.r (.r (.r (.r (.r .root))))))) f h = s47_2 c k J (f 0) (f 7) h := by kernel_rfl
theorem w47 (hc : zqco c) {n : Nat} {a : List AV} (hg : f47 (r47 c k n) 0 (finit a) h) : zqs 47 a h k :=
 zqw hc q47 Go.Proofs.Tryz.func47 rfl (by kernel_rfl) (by kernel_rfl) k u47 (fun n => f47 (r47 c k n)) (fun L _ _ hl => match L, hl with
  | 0, hl => zqnS hl fun _ _ hl => hl
  | 1, hl => zqnI hl fun _ hl => zqnI hl fun _ hl => hl
  | 2, hl => hl
  | _ + 3, hl => hl) (fun n => ⟨
  fun f h hl => by
    refine zqrS 1 hl fun _ _ hl => ?_; exact Eq.mpr (e47_0 ..) hl,
  fun f h hl => by
    refine zqrI 70 hl fun _ hl => ?_; refine zqrI 71 hl fun _ hl => ?_; exact Eq.mpr (e47_1 ..) hl,
  fun f h hl => Eq.mpr (e47_2 ..) hl,
  trivial⟩) rfl hg

theorem e48_0 (J : J48) : zqe c k q48 u48 (f48 J) d48 Go.Proofs.Tryz.f48 .root f h = s48_0 c k J (f 0) h := by kernel_rfl
theorem w48 (hc : zqco c) {n : Nat} {a : List AV} (hg : f48 (r48 c k n) 0 (finit a) h) : zqs 48 a h k :=
 zqw hc q48 Go.Proofs.Tryz.func48 rfl (by kernel_rfl) (by kernel_rfl) k u48 (fun n => f48 (r48 c k n)) (fun L _ _ hl => match L, hl with
  | 0, hl => hl
  | _ + 1, hl => hl) (fun n => ⟨
  fun f h hl => Eq.mpr (e48_0 ..) hl,
  trivial⟩) rfl hg

theorem e54_0 (J : J54) : zqe c k q54 u54 (f54 J) d54 Go.Proofs.Tryz.f54 .root f h = s54_0 c k J (f 0) h := by kernel_rfl
theorem w54 (hc : zqco c) {n : Nat} {a : List AV} (hg : f54 (r54 c k n) 0 (finit a) h) : zqs 54 a h k :=
 zqw hc q54 Go.Proofs.Tryz.func54 rfl (by kernel_rfl) (by kernel_rfl) k u54 (fun n => f54 (r54 c k n)) (fun L _ _ hl => match L, hl with
  | 0, hl => hl
  | _ + 1, hl => hl) (fun n => ⟨
  fun f h hl => Eq.mpr (e54_0 ..) hl,
  trivial⟩) rfl hg

theorem e65_0 (J : J65) (l_0 : Nat) (c_0 : Nat) : zqe c k q65 u65 (f65 J) d65 Go.Proofs.Tryz.f65 .root (fset f 0 (.str l_0 c_0)) h = s65_0 c k J l_0 c_0 h := by kernel_rfl
theorem e65_1 (J : J65) (l_0 : Nat) (c_0 : Nat) (n_4 : Int) (n_5 : Int) : zqe c k q65 u65 (f65 J) d65 Go.Proofs.Tryz.f65 (.l (.r (.l (.r (.r (.r .root)))))) (fset (fset (fset f 0 (.str l_0 c_0)) 4 (.int .i64 n_4)) 5 (.int .i64 n_5)) h = s65_1 c k J l_0 c_0 (f 3) n_4 n_5 h := by kernel_rfl
theorem e65_2 (J : J65) (l_0 : Nat) (c_0 : Nat) (n_4 : Int) (n_5 : Int) : zqe c k q65 u65 (f65 J) d65 Go.Proofs.Tryz.f65 (.r (.r (.l (.l (.r (.l (.r (.r (.r .root))))))))) (fset (fset (fset f 0 (.str l_0 c_0)) 4 (.int .i64 n_4)) 5 (.int .i64 n_5)) h = s65_2 c k J l_0 c_0 (f 3) n_4 n_5 h := by kernel_rfl
theorem w65 (hc : zqco c) {n : Nat} {a : List AV} (hg : f65 (r65 c k n) 0 (finit a) h) : zqs 65 a h k :=
 zqw hc q65 Go.Proofs.Tryz.func65 rfl (by kernel_rfl) (by kernel_rfl) k u65 (fun n => f65 (r65 c k n)) (fun L _ _ hl => match L, hl with
  | 0, hl => zqnS hl fun _ _ hl => hl
  | 1, hl => zqnS hl fun _ _ hl => zqnI hl fun _ hl => zqnI hl fun _ hl => hl
  | 2, hl => zqnS hl fun _ _ hl => zqnI hl fun _ hl => zqnI hl fun _ hl => hl
  | _ + 3, hl => hl) (fun n => ⟨
  fun f h hl => by
    refine zqrS 0 hl fun _ _ hl => ?_; exact Eq.mpr (e65_0 ..) hl,
  fun f h hl => by
    refine zqrS 0 hl fun _ _ hl => ?_; refine zqrI 4 hl fun _ hl => ?_; refine zqrI 5 hl fun _ hl => ?_; exact Eq.mpr (e65_1 ..) hl,
  fun f h hl => by
    refine zqrS 0 hl fun _ _ hl => ?_; refine zqrI 4 hl fun _ hl => ?_; refine zqrI 5 hl fun _ hl => ?_; exact Eq.mpr (e65_2 ..) hl,
  trivial⟩) rfl hg

theorem e72_0 (J : J72) : zqe c k q72 u72 (f72 J) d72 Go.Proofs.Tryz.f72 .root f h = s72_0 c k J (f 0) h := by kernel_rfl
theorem w72 (hc : zqco c) {n : Nat} {a : List AV} (hg : f72 (r72 c k n) 0 (finit a) h) : zqs 72 a h k :=
 zqw hc q72 Go.Proofs.Tryz.func72 rfl (by kernel_rfl) (by kernel_rfl) k u72 (fun n => f72 (r72 c k n)) (fun L _ _ hl => match L, hl with
  | 0, hl => hl
  | _ + 1, hl => hl) (fun n => ⟨
  fun f h hl => Eq.mpr (e72_0 ..) hl,
  trivial⟩) rfl hg

theorem e73_0 (J : J73) : zqe c k q73 u73 (f73 J) d73 Go.Proofs.Tryz.f73 .root f h = s73_0 c k J (f 0) (f 1) h := by kernel_rfl
theorem e73_1 (J : J73) : zqe c k q73 u73 (f73 J) d73 Go.Proofs.Tryz.f73 (.l (.r .root)) f h = s73_1 c k J (f 0) (f 5) h := by kernel_rfl
theorem w73 (hc : zqco c) {n : Nat} {a : List AV} (hg : f73 (r73 c k n) 0 (finit a) h) : zqs 73 a h k :=
 zqw hc q73 Go.Proofs.Tryz.func73 rfl (by kernel_rfl) (by kernel_rfl) k u73 (fun n => f73 (r73 c k n)) (fun L _ _ hl => match L, hl with
  | 0, hl => hl
  | 1, hl => hl
  | _ + 2, hl => hl) (fun n => ⟨
  fun f h hl => Eq.mpr (e73_0 ..) hl,
  fun f h hl => Eq.mpr (e73_1 ..) hl,
  trivial⟩) rfl hg

theorem e77_0 (J : J77) (n_1 : Int) : zqe c k q77 u77 (f77 J) d77 Go.Proofs.Tryz.f77 .root (fset f 1 (.int .i64 n_1)) h = s77_0 c k J (f 0) n_1 h := by kernel_rfl
theorem w77 (hc : zqco c) {n : Nat} {a : List AV} (hg : f77 (r77 c k n) 0 (finit a) h) : zqs 77 a h k :=
 zqw hc q77 Go.Proofs.Tryz.func77 rfl (by kernel_rfl) (by kernel_rfl) k u77 (fun n => f77 (r77 c k n)) (fun L _ _ hl => match L, hl with
  | 0, hl => zqnI hl fun _ hl => hl
  | _ + 1, hl => hl) (fun n => ⟨
  fun f h hl => by
    refine zqrI 1 hl fun _ hl => ?_; exact Eq.mpr (e77_0 ..) hl,
  trivial⟩) rfl hg

theorem e86_0 (J : J86) (l_0 : Nat) (c_0 : Nat) (l_1 : Nat) (c_1 : Nat) (n_2 : Int) : zqe c k q86 u86 (f86 J) d86 Go.Proofs.Tryz.f86 .root (fset (fset (fset f 0 (.str l_0 c_0)) 1 (.str l_1 c_1)) 2 (.int .i64 n_2)) h = s86_0 c k J l_0 c_0 l_1 c_1 n_2 h := by kernel_rfl
theorem w86 (hc : zqco c) {n : Nat} {a : List AV} (hg : f86 (r86 c k n) 0 (finit a) h) : zqs 86 a h k :=
 zqw hc q86 Go.Proofs.Tryz.func86 rfl (by kernel_rfl) (by kernel_rfl) k u86 (fun n => f86 (r86 c k n)) (fun L _ _ hl => match L, hl with
  | 0, hl => zqnS hl fun _ _ hl => zqnS hl fun _ _ hl => zqnI hl fun _ hl => hl
  | _ + 1, hl => hl) (fun n => ⟨
  fun f h hl => by
    refine zqrS 0 hl fun _ _ hl => ?_; refine zqrS 1 hl fun _ _ hl => ?_; refine zqrI 2 hl fun _ hl => ?_; exact Eq.mpr (e86_0 ..) hl,
  trivial⟩) rfl hg

theorem e88_0 (J : J88) (l_0 : Nat) (c_0 : Nat) : zqe c k q88 u88 (f88 J) d88 Go.Proofs.Tryz.f88 .root (fset f 0 (.str l_0 c_0)) h = s88_0 c k J l_0 c_0 h := by kernel_rfl
theorem w88 (hc : zqco c) {n : Nat} {a : List AV} (hg : f88 (r88 c k n) 0 (finit a) h) : zqs 88 a h k :=
 zqw hc q88 Go.Proofs.Tryz.func88 rfl (by kernel_rfl) (by kernel_rfl) k u88 (fun n => f88 (r88 c k n)) (fun L _ _ hl => match L, hl with
  | 0, hl => zqnS hl fun _ _ hl => hl
  | _ + 1, hl => hl) (fun n => ⟨
  fun f h hl => by
    refine zqrS 0 hl fun _ _ hl => ?_; exact Eq.mpr (e88_0 ..) hl,
  trivial⟩) rfl hg

theorem e95_0 (J : J95) : zqe c k q95 u95 (f95 J) d95 Go.Proofs.Tryz.f95 .root f h = s95_0 c k J (f 0) (f 1) h := by kernel_rfl
theorem e95_1 (J : J95) (n_34 : Int) (n_35 : Int) : zqe c k q95 u95 (f95 J) d95 Go.Proofs.Tryz.f95 (.l (.r (.l (.r (.r (.r .root)))))) (fset (fset f 34 (.int .i64 n_34)) 35 (.int .i64 n_35)) h = s95_1 c k J (f 0) (f 3) (f 33) n_34 n_35 h := by kernel_rfl
theorem w95 (hc : zqco c) {n : Nat} {a : List AV} (hg : f95 (r95 c k n) 0 (finit a) h) : zqs 95 a h k :=
 zqw hc q95 Go.Proofs.Tryz.func95 rfl (by kernel_rfl) (by kernel_rfl) k u95 (fun n => f95 (r95 c k n)) (fun L _ _ hl => match L, hl with
  | 0, hl => hl
  | 1, hl => zqnI hl fun _ hl => zqnI hl fun _ hl => hl
  | _ + 2, hl => hl) (fun n => ⟨
  fun f h hl => Eq.mpr (e95_0 ..) hl,
  fun f h hl => by
    refine zqrI 34 hl fun _ hl => ?_; refine zqrI 35 hl fun _ hl => ?_; exact Eq.mpr (e95_1 ..) hl,
  trivial⟩) rfl hg

theorem e97_0 (J : J97) (n_1 : Int) (n_2 : Int) (n_3 : Int) : zqe c k q97 u97 (f97 J) d97 Go.Proofs.Tryz.f97 .root (fset (fset (fset f 1 (.int .i64 n_1)) 2 (.int .i64 n_2)) 3 (.int .i64 n_3)) h = s97_0 c k J (f 0) n_1 n_2 n_3 h := by kernel_rfl
theorem e97_1 (J : J97) (n_1 : Int) (n_2 : Int) (n_3 : Int) (b_8 : Bool) (b_9 : Bool) : zqe c k q97 u97 (f97 J) d97 Go.Proofs.Tryz.f97 (.l (.r (.r .root))) (fset (fset (fset (fset (fset f 1 (.int .i64 n_1)) 2 (.int .i64 n_2)) 3 (.int .i64 n_3)) 8 (.bool b_8)) 9 (.bool b_9)) h = s97_1 c k J (f 0) n_1 n_2 n_3 b_8 b_9 h := by kernel_rfl
theorem e97_2 (J : J97) (n_1 : Int) (n_2 : Int) (n_3 : Int) (b_8 : Bool) (b_9 : Bool) (n_10 : Int) (n_11 : Int) : zqe c k q97 u97 (f97 J) d97 Go.Proofs.Tryz.f97 (.r (.r (.r (.r (.r (.r (.r (.l (.l (.l (.r (.r .root)))))))))))) (fset (fset (fset (fset (fset (fset (fset f 1 (.int .i64 n_1)) 2 (.int .i64 n_2)) 3 (.int .i64 n_3)) 8 (.bool b_8)) 9 (.bool b_9)) 10 (.int .i64 n_10)) 11 (.int .i64 n_11)) h = s97_2 c k J (f 0) n_1 n_2 n_3 b_8 b_9 n_10 n_11 h := by kernel_rfl
theorem e97_3 (J : J97) (n_1 : Int) (n_2 : Int) (n_3 : Int) (b_8 : Bool) (b_9 : Bool) (n_10 : Int) (n_11 : Int) (n_12 : Int) : zqe c k q97 u97 (f97 J) d97 Go.Proofs.Tryz.f97 (.r (.r (.r (.r (.r (.r (.l (.l (.l (.r (.r .root))))))))))) (fset (fset (fset (fset (fset (fset (fset (fset f 1 (.int .i64 n_1)) 2 (.int .i64 n_2)) 3 (.int .i64 n_3)) 8 (.bool b_8)) 9 (.bool b_9)) 10 (.int .i64 n_10)) 11 (.int .i64 n_11)) 12 (.int .i64 n_12)) h = s97_3 c k J (f 0) n_1 n_2 n_3 b_8 b_9 n_10 n_11 n_12 h := by kernel_rfl
theorem e97_4 (J : J97) (n_1 : Int) (n_2 : Int) (n_3 : Int) (b_8 : Bool) (b_9 : Bool) (n_10 : Int) : zqe c k q97 u97 (f97 J) d97 Go.Proofs.Tryz.f97 (.r (.r (.r (.r (.l (.l (.l (.r (.r .root))))))))) (fset (fset (fset (fset (fset (fset f 1 (.int .i64 n_1)) 2 (.int .i64 n_2)) 3 (.int .i64 n_3)) 8 (.bool b_8)) 9 (.bool b_9)) 10 (.int .i64 n_10)) h = s97_4 c k J (f 0) n_1 n_2 n_3 b_8 b_9 n_10 h := by kernel_rfl
theorem w97 (hc : zqco c) {n : Nat} {a : List AV} (hg : f97 (r97 c k n) 0 (finit a) h) : zqs 97 a h k :=
 zqw hc q97 Go.Proofs.Tryz.func97 rfl (by kernel_rfl) (by kernel_rfl) k u97 (fun n => f97 (r97 c k n)) (fun L _ _ hl => match L, hl with
  | 0, hl => zqnI hl fun _ hl => zqnI hl fun _ hl => zqnI hl fun _ hl => hl
  | 1, hl => zqnI hl fun _ hl => zqnI hl fun _ hl => zqnI hl fun _ hl => zqnB hl fun _ hl => zqnB hl fun _ hl => hl
  | 2, hl => zqnI hl fun _ hl => zqnI hl fun _ hl => zqnI hl fun _ hl => zqnB hl fun _ hl => zqnB hl fun _ hl => zqnI hl fun _ hl => zqnI hl fun _ hl => hl
  | 3, hl => zqnI hl fun _ hl => zqnI hl fun _ hl => zqnI hl fun _ hl => zqnB hl fun _ hl => zqnB hl fun _ hl => zqnI hl fun _ hl => zqnI hl fun _ hl => zqnI hl fun _ hl => hl
  | 4, hl => zqnI hl fun _ hl => zqnI hl fun _ hl => zqnI hl fun _ hl => zqnB hl fun _ hl => zqnB hl fun _ hl => zqnI hl fun _ hl => hl
  | _ + 5, hl => hl) (fun n => ⟨
  fun f h hl => by
    refine zqrI 1 hl fun _ hl => ?_; refine zqrI 2 hl fun _ hl => ?_; refine zqrI 3 hl fun _ hl => ?_; exact Eq.mpr (e97_0 ..) hl,
  fun f h hl => by
    refine zqrI 1 hl fun _ hl => ?_; refine zqrI 2 hl fun _ hl => ?_; refine zqrI 3 hl fun _ hl => ?_; refine zqrB 8 hl fun _ hl => ?_; refine zqrB 9 hl fun _ hl => ?_; exact Eq.mpr (e97_1 ..) hl,
  fun f h hl => by
    refine zqrI 1 hl fun _ hl => ?_; refine zqrI 2 hl fun _ hl => ?_; refine zqrI 3 hl fun _ hl => ?_; refine zqrB 8 hl fun _ hl => ?_; refine zqrB 9 hl fun _ hl => ?_; refine zqrI 10 hl fun _ hl => ?_; refine zqrI 11 hl fun _ hl => ?_; exact Eq.mpr (e97_2 ..) hl,
  fun f h hl => by
    refine zqrI 1 hl fun _ hl => ?_; refine zqrI 2 hl fun _ hl => ?_; refine zqrI 3 hl fun _ hl => ?_; refine zqrB 8 hl fun _ hl => ?_; refine zqrB 9 hl fun _ hl => ?_; refine zqrI 10 hl fun _ hl => ?_; refine zqrI 11 hl fun _ hl => ?_; refine zqrI 12 hl fun _ hl => ?_; exact Eq.mpr (e97_3 ..) hl,
  fun f h hl => by
    refine zqrI 1 hl fun _ hl => ?_; refine zqrI 2 hl fun _ hl => ?_; refine zqrI 3 hl fun _ hl => ?_; refine zqrB 8 hl fun _ hl => ?_; refine zqrB 9 hl fun _ hl => ?_; refine zqrI 10 hl fun _ hl => ?_; exact Eq.mpr (e97_4 ..) hl,
  trivial⟩) rfl hg

theorem e98_0 (J : J98) (n_0 : Int) : zqe c k q98 u98 (f98 J) d98 Go.Proofs.Tryz.f98 .root (fset f 0 (.int .u64 n_0)) h = s98_0 c k J n_0 h := by kernel_rfl
theorem w98 (hc : zqco c) {n : Nat} {a : List AV} (hg : f98 (r98 c k n) 0 (finit a) h) : zqs 98 a h k :=
 zqw hc q98 Go.Proofs.Tryz.func98 rfl (by kernel_rfl) (by kernel_rfl) k u98 (fun n => f98 (r98 c k n)) (fun L _ _ hl => match L, hl with
  | 0, hl => zqnI hl fun _ hl => hl
  | _ + 1, hl => hl) (fun n => ⟨
  fun f h hl => by
    refine zqrI 0 hl fun _ hl => ?_; exact Eq.mpr (e98_0 ..) hl,
  trivial⟩) rfl hg

theorem e100_0 (J : J100) (l_1 : Nat) (c_1 : Nat) : zqe c k q100 u100 (f100 J) d100 Go.Proofs.Tryz.f100 .root (fset f 1 (.str l_1 c_1)) h = s100_0 c k J (f 0) l_1 c_1 h := by kernel_rfl
theorem w100 (hc : zqco c) {n : Nat} {a : List AV} (hg : f100 (r100 c k n) 0 (finit a) h) : zqs 100 a h k :=
 zqw hc q100 Go.Proofs.Tryz.func100 rfl (by kernel_rfl) (by kernel_rfl) k u100 (fun n => f100 (r100 c k n)) (fun L _ _ hl => match L, hl with
  | 0, hl => zqnS hl fun _ _ hl => hl
  | _ + 1, hl => hl) (fun n => ⟨
  fun f h hl => by
    refine zqrS 1 hl fun _ _ hl => ?_; exact Eq.mpr (e100_0 ..) hl,
  trivial⟩) rfl hg

theorem e102_0 (J : J102) : zqe c k q102 u102 (f102 J) d102 Go.Proofs.Tryz.f102 .root f h = s102_0 c k J (f 0) (f 1) h := by kernel_rfl
theorem e102_1 (J : J102) : zqe c k q102 u102 (f102 J) d102 Go.Proofs.Tryz.f102 (.r (.r .root)) f h = s102_1 c k J (f 3) (f 4) h := by kernel_rfl
theorem w102 (hc : zqco c) {n : Nat} {a : List AV} (hg : f102 (r102 c k n) 0 (finit a) h) : zqs 102 a h k :=
 zqw hc q102 Go.Proofs.Tryz.func102 rfl (by kernel_rfl) (by kernel_rfl) k u102 (fun n => f102 (r102 c k n)) (fun L _ _ hl => match L, hl with
  | 0, hl => hl
  | 1, hl => hl
  | _ + 2, hl => hl) (fun n => ⟨
  fun f h hl => Eq.mpr (e102_0 ..) hl,
  fun f h hl => Eq.mpr (e102_1 ..) hl,
  trivial⟩) rfl hg

theorem e108_0 (J : J108) (l_0 : Nat) (c_0 : Nat) (n_1 : Int) : zqe c k q108 u108 (f108 J) d108 Go.Proofs.Tryz.f108 .root (fset (fset f 0 (.str l_0 c_0)) 1 (.int .i64 n_1)) h = s108_0 c k J l_0 c_0 n_1 h := by kernel_rfl
theorem e108_1 (J : J108) (l_0 : Nat) (c_0 : Nat) (n_1 : Int) : zqe c k q108 u108 (f108 J) d108 Go.Proofs.Tryz.f108 (.r (.r .root)) (fset (fset f 0 (.str l_0 c_0)) 1 (.int .i64 n_1)) h = s108_1 c k J l_0 c_0 n_1 (f 4) h := by kernel_rfl
theorem w108 (hc : zqco c) {n : Nat} {a : List AV} (hg : f108 (r108 c k n) 0 (finit a) h) : zqs 108 a h k :=
 zqw hc q108 Go.Proofs.Tryz.func108 rfl (by kernel_rfl) (by kernel_rfl) k u108 (fun n => f108 (r108 c k n)) (fun L _ _ hl => match L, hl with
  | 0, hl => zqnS hl fun _ _ hl => zqnI hl fun _ hl => hl
  | 1, hl => zqnS hl fun _ _ hl => zqnI hl fun _ hl => hl
  | _ + 2, hl => hl) (fun n => ⟨
  fun f h hl => by
    refine zqrS 0 hl fun _ _ hl => ?_; refine zqrI 1 hl fun _ hl => ?_; exact Eq.mpr (e108_0 ..) hl,
  fun f h hl => by
    refine zqrS 0 hl fun _ _ hl => ?_; refine zqrI 1 hl fun _ hl => ?_; exact Eq.mpr (e108_1 ..) hl,
  trivial⟩) rfl hg

theorem e109_0 (J : J109) : zqe c k q109 u109 (f109 J) d109 Go.Proofs.Tryz.f109 .root f h = s109_0 c k J (f 0) h := by kernel_rfl
theorem w109 (hc : zqco c) {n : Nat} {a : List AV} (hg : f109 (r109 c k n) 0 (finit a) h) : zqs 109 a h k :=
 zqw hc q109 Go.Proofs.Tryz.func109 rfl (by kernel_rfl) (by kernel_rfl) k u109 (fun n => f109 (r109 c k n)) (fun L _ _ hl => match L, hl with
  | 0, hl => hl
  | _ + 1, hl => hl) (fun n => ⟨
  fun f h hl => Eq.mpr (e109_0 ..) hl,
  trivial⟩) rfl hg

theorem e110_0 (J : J110) : zqe c k q110 u110 (f110 J) d110 Go.Proofs.Tryz.f110 .root f h = s110_0 c k J (f 0) (f 1) (f 2) (f 3) h := by kernel_rfl
theorem e110_1 (J : J110) : zqe c k q110 u110 (f110 J) d110 Go.Proofs.Tryz.f110 (.l (.l (.l (.r (.l .root))))) f h = s110_1 c k J (f 0) (f 2) h := by kernel_rfl
theorem e110_2 (J : J110) : zqe c k q110 u110 (f110 J) d110 Go.Proofs.Tryz.f110 (.l (.l (.r .root))) f h = s110_2 c k J (f 0) (f 1) (f 2) (f 3) h := by kernel_rfl
theorem w110 (hc : zqco c) {n : Nat} {a : List AV} (hg : f110 (r110 c k n) 0 (finit a) h) : zqs 110 a h k :=
 zqw hc q110 Go.Proofs.Tryz.func110 rfl (by kernel_rfl) (by kernel_rfl) k u110 (fun n => f110 (r110 c k n)) (fun L _ _ hl => match L, hl with
  | 0, hl => hl
  | 1, hl => hl
  | 2, hl => hl
  | _ + 3, hl => hl) (fun n => ⟨
  fun f h hl => Eq.mpr (e110_0 ..) hl,
  fun f h hl => Eq.mpr (e110_1 ..) hl,
  fun f h hl => Eq.mpr (e110_2 ..) hl,
  trivial⟩) rfl hg

theorem w113 (hc : zqco c) {m : Nat} {a : List AV} (hg : runJ env c q113 u113 d113 (retA env Go.Proofs.Tryz.f113.results.toList k) m 0 (finit a) h) : zqs 113 a h k := fnI_ok mixed envOk hc q113 Go.Proofs.Tryz.func113 rfl (by kernel_rfl) (by kernel_rfl) (by kernel_rfl) (by simp [u113]) hg
theorem e116_0 (J : J116) (l_1 : Nat) (c_1 : Nat) : zqe c k q116 u116 (f116 J) d116 Go.Proofs.Tryz.f116 .root (fset f 1 (.str l_1 c_1)) h = s116_0 c k J (f 0) l_1 c_1 h := by kernel_rfl
theorem w116 (hc : zqco c) {n : Nat} {a : List AV} (hg : f116 (r116 c k n) 0 (finit a) h) : zqs 116 a h k :=
 zqw hc q116 Go.Proofs.Tryz.func116 rfl (by kernel_rfl) (by kernel_rfl) k u116 (fun n => f116 (r116 c k n)) (fun L _ _ hl => match L, hl with
  | 0, hl => zqnS hl fun _ _ hl => hl
  | _ + 1, hl => hl) (fun n => ⟨
  fun f h hl => by
    refine zqrS 1 hl fun _ _ hl => ?_; exact Eq.mpr (e116_0 ..) hl,
  trivial⟩) rfl hg

theorem w123 (hc : zqco c) {m : Nat} {a : List AV} (hg : runJ env c q123 u123 d123 (retA env Go.Proofs.Tryz.f123.results.toList k) m 0 (finit a) h) : zqs 123 a h k := fnI_ok mixed envOk hc q123 Go.Proofs.Tryz.func123 rfl (by kernel_rfl) (by kernel_rfl) (by kernel_rfl) (by simp [u123]) hg
theorem w128 (hc : zqco c) {m : Nat} {a : List AV} (hg : runJ env c q128 u128 d128 (retA env Go.Proofs.Tryz.f128.results.toList k) m 0 (finit a) h) : zqs 128 a h k := fnI_ok mixed envOk hc q128 Go.Proofs.Tryz.func128 rfl (by kernel_rfl) (by kernel_rfl) (by kernel_rfl) (by simp [u128]) hg
theorem e130_0 (J : J130) (n_0 : Int) : zqe c k q130 u130 (f130 J) d130 Go.Proofs.Tryz.f130 .root (fset f 0 (.int .u64 n_0)) h = s130_0 c k J n_0 h := by kernel_rfl
theorem e130_1 (J : J130) (n_0 : Int) (n_2 : Int) : zqe c k q130 u130 (f130 J) d130 Go.Proofs.Tryz.f130 (.r (.r (.r (.r .root)))) (fset (fset f 0 (.int .u64 n_0)) 2 (.int .i64 n_2)) h = s130_1 c k J n_0 n_2 h := by kernel_rfl
theorem e130_2 (J : J130) (n_0 : Int) (n_2 : Int) : zqe c k q130 u130 (f130 J) d130 Go.Proofs.Tryz.f130 (.r (.r (.r .root))) (fset (fset f 0 (.int .u64 n_0)) 2 (.int .i64 n_2)) h = s130_2 c k J n_0 n_2 h := by kernel_rfl
theorem e130_3 (J : J130) (n_0 : Int) (n_2 : Int) : zqe c k q130 u130 (f130 J) d130 Go.Proofs.Tryz.f130 (.r (.r .root)) (fset (fset f 0 (.int .u64 n_0)) 2 (.int .i64 n_2)) h = s130_3 c k J n_0 n_2 h := by kernel_rfl
theorem w130 (hc : zqco c) {n : Nat} {a : List AV} (hg : f130 (r130 c k n) 0 (finit a) h) : zqs 130 a h k :=
 zqw hc q130 Go.Proofs.Tryz.func130 rfl (by kernel_rfl) (by kernel_rfl) k u130 (fun n => f130 (r130 c k n)) (fun L _ _ hl => match L, hl with
  | 0, hl => zqnI hl fun _ hl => hl
  | 1, hl => zqnI hl fun _ hl => zqnI hl fun _ hl => hl
  | 2, hl => zqnI hl fun _ hl => zqnI hl fun _ hl => hl
  | 3, hl => zqnI hl fun _ hl => zqnI hl fun _ hl => hl
  | _ + 4, hl => hl) (fun n => ⟨
  fun f h hl => by
    refine zqrI 0 hl fun _ hl => ?_; exact Eq.mpr (e130_0 ..) hl,
  fun f h hl => by
    refine zqrI 0 hl fun _ hl => ?_; refine zqrI 2 hl fun _ hl => ?_; exact Eq.mpr (e130_1 ..) hl,
  fun f h hl => by
    refine zqrI 0 hl fun _ hl => ?_; refine zqrI 2 hl fun _ hl => ?_; exact Eq.mpr (e130_2 ..) hl,
  fun f h hl => by
    refine zqrI 0 hl fun _ hl => ?_; refine zqrI 2 hl fun _ hl => ?_; exact Eq.mpr (e130_3 ..) hl,
  trivial⟩) rfl hg

theorem e133_0 (J : J133) : zqe c k q133 u133 (f133 J) d133 Go.Proofs.Tryz.f133 .root f h = s133_0 c k J (f 0) h := by kernel_rfl
theorem e133_1 (J : J133) (n_3 : Int) : zqe c k q133 u133 (f133 J) d133 Go.Proofs.Tryz.f133 (.l (.r (.l (.l (.r (.l (.r (.r .root)))))))) (fset f 3 (.int .i64 n_3)) h = s133_1 c k J (f 0) n_3 h := by kernel_rfl
theorem w133 (hc : zqco c) {n : Nat} {a : List AV} (hg : f133 (r133 c k n) 0 (finit a) h) : zqs 133 a h k :=
 zqw hc q133 Go.Proofs.Tryz.func133 rfl (by kernel_rfl) (by kernel_rfl) k u133 (fun n => f133 (r133 c k n)) (fun L _ _ hl => match L, hl with
  | 0, hl => hl
  | 1, hl => zqnI hl fun _ hl => hl
  | _ + 2, hl => hl) (fun n => ⟨
  fun f h hl => Eq.mpr (e133_0 ..) hl,
  fun f h hl => by
    refine zqrI 3 hl fun _ hl => ?_; exact Eq.mpr (e133_1 ..) hl,
  trivial⟩) rfl hg

theorem e135_0 (J : J135) (l_1 : Nat) (c_1 : Nat) : zqe c k q135 u135 (f135 J) d135 Go.Proofs.Tryz.f135 .root (fset f 1 (.str l_1 c_1)) h = s135_0 c k J (f 0) l_1 c_1 h := by kernel_rfl
theorem e135_1 (J : J135) (l_1 : Nat) (c_1 : Nat) (n_6 : Int) (n_7 : Int) (n_8 : Int) : zqe c k q135 u135 (f135 J) d135 Go.Proofs.Tryz.f135 (.l (.l (.r (.r (.r .root))))) (fset (fset (fset (fset f 1 (.str l_1 c_1)) 6 (.int .i64 n_6)) 7 (.int .i64 n_7)) 8 (.int .i64 n_8)) h = s135_1 c k J (f 0) l_1 c_1 n_6 n_7 n_8 h := by kernel_rfl
theorem w135 (hc : zqco c) {n : Nat} {a : List AV} (hg : f135 (r135 c k n) 0 (finit a) h) : zqs 135 a h k :=
 zqw hc q135 Go.Proofs.Tryz.func135 rfl (by kernel_rfl) (by kernel_rfl) k u135 (fun n => f135 (r135 c k n)) (fun L _ _ hl => match L, hl with
  | 0, hl => zqnS hl fun _ _ hl => hl
  | 1, hl => zqnS hl fun _ _ hl => zqnI hl fun _ hl => zqnI hl fun _ hl => zqnI hl fun _ hl => hl
  | _ + 2, hl => hl) (fun n => ⟨
  fun f h hl => by
    refine zqrS 1 hl fun _ _ hl => ?_; exact Eq.mpr (e135_0 ..) hl,
  fun f h hl => by
    refine zqrS 1 hl fun _ _ hl => ?_; refine zqrI 6 hl fun _ hl => ?_; refine zqrI 7 hl fun _ hl => ?_; refine zqrI 8 hl fun _ hl => ?_; exact Eq.mpr (e135_1 ..) hl,
  trivial⟩) rfl hg

theorem w139 (hc : zqco c) {m : Nat} {a : List AV} (hg : runJ env c q139 u139 d139 (retA env Go.Proofs.Tryz.f139.results.toList k) m 0 (finit a) h) : zqs 139 a h k := fnI_ok mixed envOk hc q139 Go.Proofs.Tryz.func139 rfl (by kernel_rfl) (by kernel_rfl) (by kernel_rfl) (by simp [u139]) hg
theorem w143 (hc : zqco c) {m : Nat} {a : List AV} (hg : runJ env c q143 u143 d143 (retA env Go.Proofs.Tryz.f143.results.toList k) m 0 (finit a) h) : zqs 143 a h k := fnI_ok mixed envOk hc q143 Go.Proofs.Tryz.func143 rfl (by kernel_rfl) (by kernel_rfl) (by kernel_rfl) (by simp [u143]) hg
theorem w147 (hc : zqco c) {m : Nat} {a : List AV} (hg : runJ env c q147 u147 d147 (retA env Go.Proofs.Tryz.f147.results.toList k) m 0 (finit a) h) : zqs 147 a h k := fnI_ok mixed envOk hc q147 Go.Proofs.Tryz.func147 rfl (by kernel_rfl) (by kernel_rfl) (by kernel_rfl) (by simp [u147]) hg
theorem w151 (hc : zqco c) {m : Nat} {a : List AV} (hg : runJ env c q151 u151 d151 (retA env Go.Proofs.Tryz.f151.results.toList k) m 0 (finit a) h) : zqs 151 a h k := fnI_ok mixed envOk hc q151 Go.Proofs.Tryz.func151 rfl (by kernel_rfl) (by kernel_rfl) (by kernel_rfl) (by simp [u151]) hg
theorem e154_0 (J : J154) (l_0 : Nat) (c_0 : Nat) (l_1 : Nat) (c_1 : Nat) : zqe c k q154 u154 (f154 J) d154 Go.Proofs.Tryz.f154 .root (fset (fset f 0 (.str l_0 c_0)) 1 (.str l_1 c_1)) h = s154_0 c k J l_0 c_0 l_1 c_1 h := by kernel_rfl
theorem w154 (hc : zqco c) {n : Nat} {a : List AV} (hg : f154 (r154 c k n) 0 (finit a) h) : zqs 154 a h k :=
 zqw hc q154 Go.Proofs.Tryz.func154 rfl (by kernel_rfl) (by kernel_rfl) k u154 (fun n => f154 (r154 c k n)) (fun L _ _ hl => match L, hl with
  | 0, hl => zqnS hl fun _ _ hl => zqnS hl fun _ _ hl => hl
  | _ + 1, hl => hl) (fun n => ⟨
  fun f h hl => by
    refine zqrS 0 hl fun _ _ hl => ?_; refine zqrS 1 hl fun _ _ hl => ?_; exact Eq.mpr (e154_0 ..) hl,
  trivial⟩) rfl hg

theorem w157 (hc : zqco c) {m : Nat} {a : List AV} (hg : runJ env c q157 u157 d157 (retA env Go.Proofs.Tryz.f157.results.toList k) m 0 (finit a) h) : zqs 157 a h k := fnI_ok mixed envOk hc q157 Go.Proofs.Tryz.func157 rfl (by kernel_rfl) (by kernel_rfl) (by kernel_rfl) (by simp [u157]) hg
theorem e161_0 (J : J161) : zqe c k q161 u161 (f161 J) d161 Go.Proofs.Tryz.f161 .root f h = s161_0 c k J  h := by kernel_rfl
theorem w161 (hc : zqco c) {n : Nat} {a : List AV} (hg : f161 (r161 c k n) 0 (finit a) h) : zqs 161 a h k :=
 zqw hc q161 Go.Proofs.Tryz.func161 rfl (by kernel_rfl) (by kernel_rfl) k u161 (fun n => f161 (r161 c k n)) (fun L _ _ hl => match L, hl with
  | 0, hl => hl
  | _ + 1, hl => hl) (fun n => ⟨
  fun f h hl => Eq.mpr (e161_0 ..) hl,
  trivial⟩) rfl hg

theorem w166 (hc : zqco c) {m : Nat} {a : List AV} (hg : runJ env c q166 u166 d166 (retA env Go.Proofs.Tryz.f166.results.toList k) m 0 (finit a) h) : zqs 166 a h k := fnI_ok mixed envOk hc q166 Go.Proofs.Tryz.func166 rfl (by kernel_rfl) (by kernel_rfl) (by kernel_rfl) (by simp [u166]) hg
theorem w173 (hc : zqco c) {m : Nat} {a : List AV} (hg : runJ env c q173 u173 d173 (retA env Go.Proofs.Tryz.f173.results.toList k) m 0 (finit a) h) : zqs 173 a h k := fnI_ok mixed envOk hc q173 Go.Proofs.Tryz.func173 rfl (by kernel_rfl) (by kernel_rfl) (by kernel_rfl) (by simp [u173]) hg
theorem e180_0 (J : J180) (n_1 : Int) : zqe c k q180 u180 (f180 J) d180 Go.Proofs.Tryz.f180 .root (fset f 1 (.int .i64 n_1)) h = s180_0 c k J (f 0) n_1 h := by kernel_rfl
theorem w180 (hc : zqco c) {n : Nat} {a : List AV} (hg : f180 (r180 c k n) 0 (finit a) h) : zqs 180 a h k :=
 zqw hc q180 Go.Proofs.Tryz.func180 rfl (by kernel_rfl) (by kernel_rfl) k u180 (fun n => f180 (r180 c k n)) (fun L _ _ hl => match L, hl with
  | 0, hl => zqnI hl fun _ hl => hl
  | _ + 1, hl => hl) (fun n => ⟨
  fun f h hl => by
    refine zqrI 1 hl fun _ hl => ?_; exact Eq.mpr (e180_0 ..) hl,
  trivial⟩) rfl hg

theorem w185 (hc : zqco c) {m : Nat} {a : List AV} (hg : runJ env c q185 u185 d185 (retA env Go.Proofs.Tryz.f185.results.toList k) m 0 (finit a) h) : zqs 185 a h k := fnI_ok mixed envOk hc q185 Go.Proofs.Tryz.func185 rfl (by kernel_rfl) (by kernel_rfl) (by kernel_rfl) (by simp [u185]) hg
theorem w190 (hc : zqco c) {m : Nat} {a : List AV} (hg : runJ env c q190 u190 d190 (retA env Go.Proofs.Tryz.f190.results.toList k) m 0 (finit a) h) : zqs 190 a h k := fnI_ok mixed envOk hc q190 Go.Proofs.Tryz.func190 rfl (by kernel_rfl) (by kernel_rfl) (by kernel_rfl) (by simp [u190]) hg
theorem w194 (hc : zqco c) {m : Nat} {a : List AV} (hg : runJ env c q194 u194 d194 (retA env Go.Proofs.Tryz.f194.results.toList k) m 0 (finit a) h) : zqs 194 a h k := fnI_ok mixed envOk hc q194 Go.Proofs.Tryz.func194 rfl (by kernel_rfl) (by kernel_rfl) (by kernel_rfl) (by simp [u194]) hg
theorem w198 (hc : zqco c) {m : Nat} {a : List AV} (hg : runJ env c q198 u198 d198 (retA env Go.Proofs.Tryz.f198.results.toList k) m 0 (finit a) h) : zqs 198 a h k := fnI_ok mixed envOk hc q198 Go.Proofs.Tryz.func198 rfl (by kernel_rfl) (by kernel_rfl) (by kernel_rfl) (by simp [u198]) hg
theorem w208 (hc : zqco c) {m : Nat} {a : List AV} (hg : runJ env c q208 u208 d208 (retA env Go.Proofs.Tryz.f208.results.toList k) m 0 (finit a) h) : zqs 208 a h k := fnI_ok mixed envOk hc q208 Go.Proofs.Tryz.func208 rfl (by kernel_rfl) (by kernel_rfl) (by kernel_rfl) (by simp [u208]) hg
theorem w214 (hc : zqco c) {m : Nat} {a : List AV} (hg : runJ env c q214 u214 d214 (retA env Go.Proofs.Tryz.f214.results.toList k) m 0 (finit a) h) : zqs 214 a h k := fnI_ok mixed envOk hc q214 Go.Proofs.Tryz.func214 rfl (by kernel_rfl) (by kernel_rfl) (by kernel_rfl) (by simp [u214]) hg
theorem e218_0 (J : J218) : zqe c k q218 u218 (f218 J) d218 Go.Proofs.Tryz.f218 .root f h = s218_0 c k J (f 0) h := by kernel_rfl
theorem w218 (hc : zqco c) {n : Nat} {a : List AV} (hg : f218 (r218 c k n) 0 (finit a) h) : zqs 218 a h k :=
 zqw hc q218 Go.Proofs.Tryz.func218 rfl (by kernel_rfl) (by kernel_rfl) k u218 (fun n => f218 (r218 c k n)) (fun L _ _ hl => match L, hl with
  | 0, hl => hl
  | _ + 1, hl => hl) (fun n => ⟨
  fun f h hl => Eq.mpr (e218_0 ..) hl,
  trivial⟩) rfl hg

theorem w220 (hc : zqco c) {m : Nat} {a : List AV} (hg : runJ env c q220 u220 d220 (retA env Go.Proofs.Tryz.f220.results.toList k) m 0 (finit a) h) : zqs 220 a h k := fnI_ok mixed envOk hc q220 Go.Proofs.Tryz.func220 rfl (by kernel_rfl) (by kernel_rfl) (by kernel_rfl) (by simp [u220]) hg
theorem e221_0 (J : J221) : zqe c k q221 u221 (f221 J) d221 Go.Proofs.Tryz.f221 .root f h = s221_0 c k J (f 0) h := by kernel_rfl
theorem e221_1 (J : J221) (n_7 : Int) (n_8 : Int) : zqe c k q221 u221 (f221 J) d221 Go.Proofs.Tryz.f221 (.l (.r (.l (.r .root)))) (fset (fset f 7 (.int .i64 n_7)) 8 (.int .i64 n_8)) h = s221_1 c k J (f 0) (f 6) n_7 n_8 h := by kernel_rfl
theorem w221 (hc : zqco c) {n : Nat} {a : List AV} (hg : f221 (r221 c k n) 0 (finit a) h) : zqs 221 a h k :=
 zqw hc q221 Go.Proofs.Tryz.func221 rfl (by kernel_rfl) (by kernel_rfl) k u221 (fun n => f221 (r221 c k n)) (fun L _ _ hl => match L, hl with
  | 0, hl => hl
  | 1, hl => zqnI hl fun _ hl => zqnI hl fun _ hl => hl
  | _ + 2, hl => hl) (fun n => ⟨
  fun f h hl => Eq.mpr (e221_0 ..) hl,
  fun f h hl => by
    refine zqrI 7 hl fun _ hl => ?_; refine zqrI 8 hl fun _ hl => ?_; exact Eq.mpr (e221_1 ..) hl,
  trivial⟩) rfl hg

theorem w226 (hc : zqco c) {m : Nat} {a : List AV} (hg : runJ env c q226 u226 d226 (retA env Go.Proofs.Tryz.f226.results.toList k) m 0 (finit a) h) : zqs 226 a h k := fnI_ok mixed envOk hc q226 Go.Proofs.Tryz.func226 rfl (by kernel_rfl) (by kernel_rfl) (by kernel_rfl) (by simp [u226]) hg
theorem w230 (hc : zqco c) {m : Nat} {a : List AV} (hg : runJ env c q230 u230 d230 (retA env Go.Proofs.Tryz.f230.results.toList k) m 0 (finit a) h) : zqs 230 a h k := fnI_ok mixed envOk hc q230 Go.Proofs.Tryz.func230 rfl (by kernel_rfl) (by kernel_rfl) (by kernel_rfl) (by simp [u230]) hg
theorem w239 (hc : zqco c) {m : Nat} {a : List AV} (hg : runJ env c q239 u239 d239 (retA env Go.Proofs.Tryz.f239.results.toList k) m 0 (finit a) h) : zqs 239 a h k := fnI_ok mixed envOk hc q239 Go.Proofs.Tryz.func239 rfl (by kernel_rfl) (by kernel_rfl) (by kernel_rfl) (by simp [u239]) hg
theorem w247 (hc : zqco c) {m : Nat} {a : List AV} (hg : runJ env c q247 u247 d247 (retA env Go.Proofs.Tryz.f247.results.toList k) m 0 (finit a) h) : zqs 247 a h k := fnI_ok mixed envOk hc q247 Go.Proofs.Tryz.func247 rfl (by kernel_rfl) (by kernel_rfl) (by kernel_rfl) (by simp [u247]) hg
theorem w251 (hc : zqco c) {m : Nat} {a : List AV} (hg : runJ env c q251 u251 d251 (retA env Go.Proofs.Tryz.f251.results.toList k) m 0 (finit a) h) : zqs 251 a h k := fnI_ok mixed envOk hc q251 Go.Proofs.Tryz.func251 rfl (by kernel_rfl) (by kernel_rfl) (by kernel_rfl) (by simp [u251]) hg
theorem w257 (hc : zqco c) {m : Nat} {a : List AV} (hg : runJ env c q257 u257 d257 (retA env Go.Proofs.Tryz.f257.results.toList k) m 0 (finit a) h) : zqs 257 a h k := fnI_ok mixed envOk hc q257 Go.Proofs.Tryz.func257 rfl (by kernel_rfl) (by kernel_rfl) (by kernel_rfl) (by simp [u257]) hg
theorem e265_0 (J : J265) (b_0 : Bool) : zqe c k q265 u265 (f265 J) d265 Go.Proofs.Tryz.f265 .root (fset f 0 (.bool b_0)) h = s265_0 c k J b_0 h := by kernel_rfl
theorem w265 (hc : zqco c) {n : Nat} {a : List AV} (hg : f265 (r265 c k n) 0 (finit a) h) : zqs 265 a h k :=
 zqw hc q265 Go.Proofs.Tryz.func265 rfl (by kernel_rfl) (by kernel_rfl) k u265 (fun n => f265 (r265 c k n)) (fun L _ _ hl => match L, hl with
  | 0, hl => zqnB hl fun _ hl => hl
  | _ + 1, hl => hl) (fun n => ⟨
  fun f h hl => by
    refine zqrB 0 hl fun _ hl => ?_; exact Eq.mpr (e265_0 ..) hl,
  trivial⟩) rfl hg

theorem w266 (hc : zqco c) {m : Nat} {a : List AV} (hg : runJ env c q266 u266 d266 (retA env Go.Proofs.Tryz.f266.results.toList k) m 0 (finit a) h) : zqs 266 a h k := fnI_ok mixed envOk hc q266 Go.Proofs.Tryz.func266 rfl (by kernel_rfl) (by kernel_rfl) (by kernel_rfl) (by simp [u266]) hg
theorem e268_0 (J : J268) (l_0 : Nat) (c_0 : Nat) (l_1 : Nat) (c_1 : Nat) : zqe c k q268 u268 (f268 J) d268 Go.Proofs.Tryz.f268 .root (fset (fset f 0 (.str l_0 c_0)) 1 (.str l_1 c_1)) h = s268_0 c k J l_0 c_0 l_1 c_1 h := by kernel_rfl
theorem w268 (hc : zqco c) {n : Nat} {a : List AV} (hg : f268 (r268 c k n) 0 (finit a) h) : zqs 268 a h k :=
 zqw hc q268 Go.Proofs.Tryz.func268 rfl (by kernel_rfl) (by kernel_rfl) k u268 (fun n => f268 (r268 c k n)) (fun L _ _ hl => match L, hl with
  | 0, hl => zqnS hl fun _ _ hl => zqnS hl fun _ _ hl => hl
  | _ + 1, hl => hl) (fun n => ⟨
  fun f h hl => by
    refine zqrS 0 hl fun _ _ hl => ?_; refine zqrS 1 hl fun _ _ hl => ?_; exact Eq.mpr (e268_0 ..) hl,
  trivial⟩) rfl hg

theorem w275 (hc : zqco c) {m : Nat} {a : List AV} (hg : runJ env c q275 u275 d275 (retA env Go.Proofs.Tryz.f275.results.toList k) m 0 (finit a) h) : zqs 275 a h k := fnI_ok mixed envOk hc q275 Go.Proofs.Tryz.func275 rfl (by kernel_rfl) (by kernel_rfl) (by kernel_rfl) (by simp [u275]) hg
theorem w280 (hc : zqco c) {m : Nat} {a : List AV} (hg : runJ env c q280 u280 d280 (retA env Go.Proofs.Tryz.f280.results.toList k) m 0 (finit a) h) : zqs 280 a h k := fnI_ok mixed envOk hc q280 Go.Proofs.Tryz.func280 rfl (by kernel_rfl) (by kernel_rfl) (by kernel_rfl) (by simp [u280]) hg
theorem w284 (hc : zqco c) {m : Nat} {a : List AV} (hg : runJ env c q284 u284 d284 (retA env Go.Proofs.Tryz.f284.results.toList k) m 0 (finit a) h) : zqs 284 a h k := fnI_ok mixed envOk hc q284 Go.Proofs.Tryz.func284 rfl (by kernel_rfl) (by kernel_rfl) (by kernel_rfl) (by simp [u284]) hg
theorem w295 (hc : zqco c) {m : Nat} {a : List AV} (hg : runJ env c q295 u295 d295 (retA env Go.Proofs.Tryz.f295.results.toList k) m 0 (finit a) h) : zqs 295 a h k := fnI_ok mixed envOk hc q295 Go.Proofs.Tryz.func295 rfl (by kernel_rfl) (by kernel_rfl) (by kernel_rfl) (by simp [u295]) hg
theorem w303 (hc : zqco c) {m : Nat} {a : List AV} (hg : runJ env c q303 u303 d303 (retA env Go.Proofs.Tryz.f303.results.toList k) m 0 (finit a) h) : zqs 303 a h k := fnI_ok mixed envOk hc q303 Go.Proofs.Tryz.func303 rfl (by kernel_rfl) (by kernel_rfl) (by kernel_rfl) (by simp [u303]) hg
theorem w307 (hc : zqco c) {m : Nat} {a : List AV} (hg : runJ env c q307 u307 d307 (retA env Go.Proofs.Tryz.f307.results.toList k) m 0 (finit a) h) : zqs 307 a h k := fnI_ok mixed envOk hc q307 Go.Proofs.Tryz.func307 rfl (by kernel_rfl) (by kernel_rfl) (by kernel_rfl) (by simp [u307]) hg
theorem w311 (hc : zqco c) {m : Nat} {a : List AV} (hg : runJ env c q311 u311 d311 (retA env Go.Proofs.Tryz.f311.results.toList k) m 0 (finit a) h) : zqs 311 a h k := fnI_ok mixed envOk hc q311 Go.Proofs.Tryz.func311 rfl (by kernel_rfl) (by kernel_rfl) (by kernel_rfl) (by simp [u311]) hg
theorem w315 (hc : zqco c) {m : Nat} {a : List AV} (hg : runJ env c q315 u315 d315 (retA env Go.Proofs.Tryz.f315.results.toList k) m 0 (finit a) h) : zqs 315 a h k := fnI_ok mixed envOk hc q315 Go.Proofs.Tryz.func315 rfl (by kernel_rfl) (by kernel_rfl) (by kernel_rfl) (by simp [u315]) hg
theorem w328 (hc : zqco c) {m : Nat} {a : List AV} (hg : runJ env c q328 u328 d328 (retA env Go.Proofs.Tryz.f328.results.toList k) m 0 (finit a) h) : zqs 328 a h k := fnI_ok mixed envOk hc q328 Go.Proofs.Tryz.func328 rfl (by kernel_rfl) (by kernel_rfl) (by kernel_rfl) (by simp [u328]) hg
theorem e331_0 (J : J331) (l_0 : Nat) (c_0 : Nat) (l_1 : Nat) (c_1 : Nat) : zqe c k q331 u331 (f331 J) d331 Go.Proofs.Tryz.f331 .root (fset (fset f 0 (.str l_0 c_0)) 1 (.str l_1 c_1)) h = s331_0 c k J l_0 c_0 l_1 c_1 h := by kernel_rfl
theorem w331 (hc : zqco c) {n : Nat} {a : List AV} (hg : f331 (r331 c k n) 0 (finit a) h) : zqs 331 a h k :=
 zqw hc q331 Go.Proofs.Tryz.func331 rfl (by kernel_rfl) (by kernel_rfl) k u331 (fun n => f331 (r331 c k n)) (fun L _ _ hl => match L, hl with
  | 0, hl => zqnS hl fun _ _ hl => zqnS hl fun _ _ hl => hl
  | _ + 1, hl => hl) (fun n => ⟨
  fun f h hl => by
    refine zqrS 0 hl fun _ _ hl => ?_; refine zqrS 1 hl fun _ _ hl => ?_; exact Eq.mpr (e331_0 ..) hl,
  trivial⟩) rfl hg

theorem w333 (hc : zqco c) {m : Nat} {a : List AV} (hg : runJ env c q333 u333 d333 (retA env Go.Proofs.Tryz.f333.results.toList k) m 0 (finit a) h) : zqs 333 a h k := fnI_ok mixed envOk hc q333 Go.Proofs.Tryz.func333 rfl (by kernel_rfl) (by kernel_rfl) (by kernel_rfl) (by simp [u333]) hg
theorem w337 (hc : zqco c) {m : Nat} {a : List AV} (hg : runJ env c q337 u337 d337 (retA env Go.Proofs.Tryz.f337.results.toList k) m 0 (finit a) h) : zqs 337 a h k := fnI_ok mixed envOk hc q337 Go.Proofs.Tryz.func337 rfl (by kernel_rfl) (by kernel_rfl) (by kernel_rfl) (by simp [u337]) hg
theorem w341 (hc : zqco c) {m : Nat} {a : List AV} (hg : runJ env c q341 u341 d341 (retA env Go.Proofs.Tryz.f341.results.toList k) m 0 (finit a) h) : zqs 341 a h k := fnI_ok mixed envOk hc q341 Go.Proofs.Tryz.func341 rfl (by kernel_rfl) (by kernel_rfl) (by kernel_rfl) (by simp [u341]) hg
theorem w348 (hc : zqco c) {m : Nat} {a : List AV} (hg : runJ env c q348 u348 d348 (retA env Go.Proofs.Tryz.f348.results.toList k) m 0 (finit a) h) : zqs 348 a h k := fnI_ok mixed envOk hc q348 Go.Proofs.Tryz.func348 rfl (by kernel_rfl) (by kernel_rfl) (by kernel_rfl) (by simp [u348]) hg
theorem w352 (hc : zqco c) {m : Nat} {a : List AV} (hg : runJ env c q352 u352 d352 (retA env Go.Proofs.Tryz.f352.results.toList k) m 0 (finit a) h) : zqs 352 a h k := fnI_ok mixed envOk hc q352 Go.Proofs.Tryz.func352 rfl (by kernel_rfl) (by kernel_rfl) (by kernel_rfl) (by simp [u352]) hg
theorem w356 (hc : zqco c) {m : Nat} {a : List AV} (hg : runJ env c q356 u356 d356 (retA env Go.Proofs.Tryz.f356.results.toList k) m 0 (finit a) h) : zqs 356 a h k := fnI_ok mixed envOk hc q356 Go.Proofs.Tryz.func356 rfl (by kernel_rfl) (by kernel_rfl) (by kernel_rfl) (by simp [u356]) hg
theorem w362 (hc : zqco c) {m : Nat} {a : List AV} (hg : runJ env c q362 u362 d362 (retA env Go.Proofs.Tryz.f362.results.toList k) m 0 (finit a) h) : zqs 362 a h k := fnI_ok mixed envOk hc q362 Go.Proofs.Tryz.func362 rfl (by kernel_rfl) (by kernel_rfl) (by kernel_rfl) (by simp [u362]) hg
theorem w367 (hc : zqco c) {m : Nat} {a : List AV} (hg : runJ env c q367 u367 d367 (retA env Go.Proofs.Tryz.f367.results.toList k) m 0 (finit a) h) : zqs 367 a h k := fnI_ok mixed envOk hc q367 Go.Proofs.Tryz.func367 rfl (by kernel_rfl) (by kernel_rfl) (by kernel_rfl) (by simp [u367]) hg
end Go.Den
