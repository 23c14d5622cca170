/-
 Proof.
-/
import Derived.Test.YtcnmehbkpaoolaaGreatDoorRunA1
import Derived.KernelRfl
namespace Go.Den
open Go.Proofs
set_option maxRecDepth 100000
variable {c : CF} {k : KV} {f : FT} {h : H}
theorem Bf8 (J : J16) : zqe c k q16 u16 (f16 J) d16 Tryz.f16 .root f h = Anv c k J (f 0) h := by kernel_rfl
theorem Bf7 (J : J16) (n_5 : Int) : zqe c k q16 u16 (f16 J) d16 Tryz.f16 (.l (.r (.l (.r (.r .root))))) (Ag f 5 (.int .i64 n_5)) h = Anu c k J (f 0) (f 4) n_5 h := by kernel_rfl
theorem Bf6 (J : J16) (n_5 : Int) : zqe c k q16 u16 (f16 J) d16 Tryz.f16 (.r (.r (.r (.r (.l (.r (.l (.l (.r (.l (.r (.r .root)))))))))))) (Ag f 5 (.int .i64 n_5)) h = Ant c k J (f 0) (f 4) n_5 h := by kernel_rfl
theorem w16 (hc : Ci c) {n : Nat} {a : List AV} (hg : f16 (r16 c k n) 0 (Ac a) h) : zqs 16 a h k :=
 zqw hc q16 Tryz.func16 rfl (by kernel_rfl) (by kernel_rfl) k u16 (fun n => f16 (r16 c k n)) (fun L _ _ hl => match L, hl with
  | 0, hl => hl
  | 1, hl => Bh hl fun _ hl => hl
  | 2, hl => Bh hl fun _ hl => hl
  | _ + 3, hl => hl) (fun n => ⟨
  fun f h hl => Eq.mpr (Bf8 ..) hl,
  fun f h hl => by
    refine Bg 5 hl fun _ hl => ?_; exact Eq.mpr (Bf7 ..) hl,
  fun f h hl => by
    refine Bg 5 hl fun _ hl => ?_; exact Eq.mpr (Bf6 ..) hl,
  trivial⟩) rfl hg
theorem Bf5 (J : J22) (l_0 c_0 : Nat) : zqe c k q22 u22 (f22 J) d22 Tryz.f22 .root (Ag f 0 (.str l_0 c_0)) h = Ans c k J l_0 c_0 h := by kernel_rfl
theorem Bf4 (J : J22) (n_6 : Int) : zqe c k q22 u22 (f22 J) d22 Tryz.f22 (.l (.r (.l (.r (.r (.r .root)))))) (Ag f 6 (.int .i64 n_6)) h = Aht c k J (f 3) (f 5) n_6 h := by kernel_rfl
theorem w22 (hc : Ci c) {n : Nat} {a : List AV} (hg : f22 (r22 c k n) 0 (Ac a) h) : zqs 22 a h k :=
 zqw hc q22 Tryz.func22 rfl (by kernel_rfl) (by kernel_rfl) k u22 (fun n => f22 (r22 c k n)) (fun L _ _ hl => match L, hl with
  | 0, hl => Bv hl fun _ _ hl => hl
  | 1, hl => Bh hl fun _ hl => hl
  | _ + 2, hl => hl) (fun n => ⟨
  fun f h hl => by
    refine Bu 0 hl fun _ _ hl => ?_; exact Eq.mpr (Bf5 ..) hl,
  fun f h hl => by
    refine Bg 6 hl fun _ hl => ?_; exact Eq.mpr (Bf4 ..) hl,
  trivial⟩) rfl hg
theorem Bf2 (J : J34) (n_1 : Int) : zqe c k q34 u34 (f34 J) d34 Tryz.f34 .root (Ag f 1 (.int .i64 n_1)) h = Anq c k J (f 0) n_1 h := by kernel_rfl
theorem Bf1 (J : J34) (n_1 : Int) (l_7 c_7 : Nat) (b_8 : Bool) (n_9 n_10 : Int) : zqe c k q34 u34 (f34 J) d34 Tryz.f34 (.l (.r (.l (.r (.r (.r (.r .root))))))) (Ag (Ag (Ag (Ag (Ag f 1 (.int .i64 n_1)) 7 (.str l_7 c_7)) 8 (.bool b_8)) 9 (.int .i64 n_9)) 10 (.int .i64 n_10)) h = Anp c k J (f 0) n_1 (f 5) (f 6) l_7 c_7 b_8 n_9 n_10 h := by kernel_rfl
theorem Bf0 (J : J34) (n_1 : Int) (l_7 c_7 : Nat) (b_8 : Bool) (n_10 : Int) (l_12 c_12 : Nat) : zqe c k q34 u34 (f34 J) d34 Tryz.f34 (.r (.r (.r (.r (.r (.r (.l (.l (.r (.l (.l (.r (.l (.r (.r (.r (.r .root))))))))))))))))) (Ag (Ag (Ag (Ag (Ag f 1 (.int .i64 n_1)) 7 (.str l_7 c_7)) 8 (.bool b_8)) 10 (.int .i64 n_10)) 12 (.str l_12 c_12)) h = Ano c k J (f 0) n_1 (f 5) (f 6) l_7 c_7 b_8 n_10 l_12 c_12 h := by kernel_rfl
theorem Bfz (J : J34) (n_1 : Int) (l_7 c_7 : Nat) (b_8 : Bool) (n_9 n_10 : Int) : zqe c k q34 u34 (f34 J) d34 Tryz.f34 (.r (.r (.l (.l (.r (.l (.r (.r (.r (.r .root)))))))))) (Ag (Ag (Ag (Ag (Ag f 1 (.int .i64 n_1)) 7 (.str l_7 c_7)) 8 (.bool b_8)) 9 (.int .i64 n_9)) 10 (.int .i64 n_10)) h = Ann c k J (f 0) n_1 (f 5) (f 6) l_7 c_7 b_8 n_9 n_10 h := by kernel_rfl
theorem Bfy (J : J34) (n_1 : Int) (l_7 c_7 : Nat) (n_9 : Int) : zqe c k q34 u34 (f34 J) d34 Tryz.f34 (.r (.r (.r (.r (.r .root))))) (Ag (Ag (Ag f 1 (.int .i64 n_1)) 7 (.str l_7 c_7)) 9 (.int .i64 n_9)) h = Anm c k J (f 0) n_1 (f 5) (f 6) l_7 c_7 n_9 h := by kernel_rfl
theorem w34 (hc : Ci c) {n : Nat} {a : List AV} (hg : f34 (r34 c k n) 0 (Ac a) h) : zqs 34 a h k :=
 zqw hc q34 Tryz.func34 rfl (by kernel_rfl) (by kernel_rfl) k u34 (fun n => f34 (r34 c k n)) (fun L _ _ hl => match L, hl with
  | 0, hl => Bh hl fun _ hl => hl
  | 1, hl => Bh hl fun _ hl => Bv hl fun _ _ hl => Jb hl fun _ hl => Bh hl fun _ hl => Bh hl fun _ hl => hl
  | 2, hl => Bh hl fun _ hl => Bv hl fun _ _ hl => Jb hl fun _ hl => Bh hl fun _ hl => Bv hl fun _ _ hl => hl
  | 3, hl => Bh hl fun _ hl => Bv hl fun _ _ hl => Jb hl fun _ hl => Bh hl fun _ hl => Bh hl fun _ hl => hl
  | 4, hl => Bh hl fun _ hl => Bv hl fun _ _ hl => Bh hl fun _ hl => hl
  | _ + 5, hl => hl) (fun n => ⟨
  fun f h hl => by
    refine Bg 1 hl fun _ hl => ?_; exact Eq.mpr (Bf2 ..) hl,
  fun f h hl => by
    refine Bg 1 hl fun _ hl => ?_; refine Bu 7 hl fun _ _ hl => ?_; refine Ja 8 hl fun _ hl => ?_; refine Bg 9 hl fun _ hl => ?_; refine Bg 10 hl fun _ hl => ?_; exact Eq.mpr (Bf1 ..) hl,
  fun f h hl => by
    refine Bg 1 hl fun _ hl => ?_; refine Bu 7 hl fun _ _ hl => ?_; refine Ja 8 hl fun _ hl => ?_; refine Bg 10 hl fun _ hl => ?_; refine Bu 12 hl fun _ _ hl => ?_; exact Eq.mpr (Bf0 ..) hl,
  fun f h hl => by
    refine Bg 1 hl fun _ hl => ?_; refine Bu 7 hl fun _ _ hl => ?_; refine Ja 8 hl fun _ hl => ?_; refine Bg 9 hl fun _ hl => ?_; refine Bg 10 hl fun _ hl => ?_; exact Eq.mpr (Bfz ..) hl,
  fun f h hl => by
    refine Bg 1 hl fun _ hl => ?_; refine Bu 7 hl fun _ _ hl => ?_; refine Bg 9 hl fun _ hl => ?_; exact Eq.mpr (Bfy ..) hl,
  trivial⟩) rfl hg
theorem Bfw (J : J36) : zqe c k q36 u36 (f36 J) d36 Tryz.f36 .root f h = Ank c k J (f 0) (f 1) h := by kernel_rfl
theorem w36 (hc : Ci c) {n : Nat} {a : List AV} (hg : f36 (r36 c k n) 0 (Ac a) h) : zqs 36 a h k :=
 zqw hc q36 Tryz.func36 rfl (by kernel_rfl) (by kernel_rfl) k u36 (fun n => f36 (r36 c k n)) (fun L _ _ hl => match L, hl with
  | 0, hl => hl
  | _ + 1, hl => hl) (fun n => ⟨
  fun f h hl => Eq.mpr (Bfw ..) hl,
  trivial⟩) rfl hg
theorem Bfv (J : J43) (l_1 c_1 : Nat) : zqe c k q43 u43 (f43 J) d43 Tryz.f43 .root (Ag f 1 (.str l_1 c_1)) h = Ahs c k J (f 0) l_1 c_1 h := by kernel_rfl
theorem w43 (hc : Ci c) {n : Nat} {a : List AV} (hg : f43 (r43 c k n) 0 (Ac a) h) : zqs 43 a h k :=
 zqw hc q43 Tryz.func43 rfl (by kernel_rfl) (by kernel_rfl) k u43 (fun n => f43 (r43 c k n)) (fun L _ _ hl => match L, hl with
  | 0, hl => Bv hl fun _ _ hl => hl
  | _ + 1, hl => hl) (fun n => ⟨
  fun f h hl => by
    refine Bu 1 hl fun _ _ hl => ?_; exact Eq.mpr (Bfv ..) hl,
  trivial⟩) rfl hg
theorem Bfu (J : J46) (l_0 c_0 : Nat) (l_1 c_1 : Nat) : zqe c k q46 u46 (f46 J) d46 Tryz.f46 .root (Ag (Ag f 0 (.str l_0 c_0)) 1 (.str l_1 c_1)) h = Anj c k J l_0 c_0 l_1 c_1 h := by kernel_rfl
theorem Bft (J : J46) (l_0 c_0 : Nat) (l_1 c_1 : Nat) (b_10 : Bool) (n_11 : Int) : zqe c k q46 u46 (f46 J) d46 Tryz.f46 (.l (.r (.l (.r (.r (.r (.r (.r (.r .root))))))))) (Ag (Ag (Ag (Ag f 0 (.str l_0 c_0)) 1 (.str l_1 c_1)) 10 (.bool b_10)) 11 (.int .i64 n_11)) h = Wx c k J l_0 c_0 l_1 c_1 (f 6) (f 7) (f 8) (f 9) b_10 n_11 h := by kernel_rfl
theorem Bfs (J : J46) (l_0 c_0 : Nat) (l_1 c_1 : Nat) (n_15 : Int) : zqe c k q46 u46 (f46 J) d46 Tryz.f46 (.r (.r (.r (.r (.r (.r (.r (.r (.l (.r (.l (.l (.r (.l (.r (.r (.r (.r (.r (.r .root)))))))))))))))))))) (Ag (Ag (Ag f 0 (.str l_0 c_0)) 1 (.str l_1 c_1)) 15 (.int .i64 n_15)) h = Ani c k J l_0 c_0 l_1 c_1 (f 6) (f 7) (f 8) (f 9) n_15 h := by kernel_rfl
theorem Bfr (J : J46) : zqe c k q46 u46 (f46 J) d46 Tryz.f46 (.r (.r (.r (.r (.r (.r (.r (.r .root)))))))) f h = Anh c k J (f 7) (f 8) h := by kernel_rfl
theorem Bfq (J : J46) (l_1 c_1 : Nat) : zqe c k q46 u46 (f46 J) d46 Tryz.f46 (.r (.l (.r (.l (.l (.r (.l (.r (.r (.r (.l (.r (.l (.l (.r (.l (.r (.r (.r (.r (.r (.r .root)))))))))))))))))))))) (Ag f 1 (.str l_1 c_1)) h = A05 c k J l_1 c_1 (f 7) (f 8) (f 9) h := by kernel_rfl
theorem Bfp (J : J46) (l_0 c_0 : Nat) (l_1 c_1 : Nat) (b_10 : Bool) (n_11 n_14 n_15 : Int) (b_16 : Bool) : zqe c k q46 u46 (f46 J) d46 Tryz.f46 (.r (.r (.r (.r (.r (.l (.r (.l (.l (.r (.l (.r (.r (.r (.r (.r (.r .root))))))))))))))))) (Ag (Ag (Ag (Ag (Ag (Ag (Ag f 0 (.str l_0 c_0)) 1 (.str l_1 c_1)) 10 (.bool b_10)) 11 (.int .i64 n_11)) 14 (.int .i64 n_14)) 15 (.int .i64 n_15)) 16 (.bool b_16)) h = Ang c k J l_0 c_0 l_1 c_1 (f 6) (f 7) (f 8) (f 9) b_10 n_11 n_14 n_15 b_16 h := by kernel_rfl
theorem w46 (hc : Ci c) {n : Nat} {a : List AV} (hg : f46 (r46 c k n) 0 (Ac a) h) : zqs 46 a h k :=
 zqw hc q46 Tryz.func46 rfl (by kernel_rfl) (by kernel_rfl) k u46 (fun n => f46 (r46 c k n)) (fun L _ _ hl => match L, hl with
  | 0, hl => Bv hl fun _ _ hl => Bv hl fun _ _ hl => hl
  | 1, hl => Bv hl fun _ _ hl => Bv hl fun _ _ hl => Jb hl fun _ hl => Bh hl fun _ hl => hl
  | 2, hl => Bv hl fun _ _ hl => Bv hl fun _ _ hl => Bh hl fun _ hl => hl
  | 3, hl => hl
  | 4, hl => Bv hl fun _ _ hl => hl
  | 5, hl => Bv hl fun _ _ hl => Bv hl fun _ _ hl => Jb hl fun _ hl => Bh hl fun _ hl => Bh hl fun _ hl => Bh hl fun _ hl => Jb hl fun _ hl => hl
  | _ + 6, hl => hl) (fun n => ⟨
  fun f h hl => by
    refine Bu 0 hl fun _ _ hl => ?_; refine Bu 1 hl fun _ _ hl => ?_; exact Eq.mpr (Bfu ..) hl,
  fun f h hl => by
    refine Bu 0 hl fun _ _ hl => ?_; refine Bu 1 hl fun _ _ hl => ?_; refine Ja 10 hl fun _ hl => ?_; refine Bg 11 hl fun _ hl => ?_; exact Eq.mpr (Bft ..) hl,
  fun f h hl => by
    refine Bu 0 hl fun _ _ hl => ?_; refine Bu 1 hl fun _ _ hl => ?_; refine Bg 15 hl fun _ hl => ?_; exact Eq.mpr (Bfs ..) hl,
  fun f h hl => Eq.mpr (Bfr ..) hl,
  fun f h hl => by
    refine Bu 1 hl fun _ _ hl => ?_; exact Eq.mpr (Bfq ..) hl,
  fun f h hl => by
    refine Bu 0 hl fun _ _ hl => ?_; refine Bu 1 hl fun _ _ hl => ?_; refine Ja 10 hl fun _ hl => ?_; refine Bg 11 hl fun _ hl => ?_; refine Bg 14 hl fun _ hl => ?_; refine Bg 15 hl fun _ hl => ?_; refine Ja 16 hl fun _ hl => ?_; exact Eq.mpr (Bfp ..) hl,
  trivial⟩) rfl hg
theorem Bfo (J : J59) (l_0 c_0 : Nat) : zqe c k q59 u59 (f59 J) d59 Tryz.f59 .root (Ag f 0 (.str l_0 c_0)) h = Anf c k J l_0 c_0 h := by kernel_rfl
theorem Bfn (J : J59) (l_0 c_0 : Nat) (l_5 c_5 : Nat) : zqe c k q59 u59 (f59 J) d59 Tryz.f59 (.lab (.r .root) 1) (Ag (Ag f 0 (.str l_0 c_0)) 5 (.str l_5 c_5)) h = Ahr c k J l_0 c_0 (f 4) l_5 c_5 h := by kernel_rfl
theorem Bfm (J : J59) : zqe c k q59 u59 (f59 J) d59 Tryz.f59 (.lab (.r .root) 0) f h = Ahq c k J  h := by kernel_rfl
theorem Bfl (J : J59) (l_0 c_0 : Nat) (l_5 c_5 : Nat) (n_8 n_9 : Int) : zqe c k q59 u59 (f59 J) d59 Tryz.f59 (.r (.l (.r (.r (.r (.r (.r (.r (.r (.l (.r .root))))))))))) (Ag (Ag (Ag (Ag f 0 (.str l_0 c_0)) 5 (.str l_5 c_5)) 8 (.int .u8 n_8)) 9 (.int .i64 n_9)) h = Ane c k J l_0 c_0 (f 4) l_5 c_5 n_8 n_9 h := by kernel_rfl
theorem w59 (hc : Ci c) {n : Nat} {a : List AV} (hg : f59 (r59 c k n) 0 (Ac a) h) : zqs 59 a h k :=
 zqw hc q59 Tryz.func59 rfl (by kernel_rfl) (by kernel_rfl) k u59 (fun n => f59 (r59 c k n)) (fun L _ _ hl => match L, hl with
  | 0, hl => Bv hl fun _ _ hl => hl
  | 1, hl => Bv hl fun _ _ hl => Bv hl fun _ _ hl => hl
  | 2, hl => hl
  | 3, hl => Bv hl fun _ _ hl => Bv hl fun _ _ hl => Bh hl fun _ hl => Bh hl fun _ hl => hl
  | _ + 4, hl => hl) (fun n => ⟨
  fun f h hl => by
    refine Bu 0 hl fun _ _ hl => ?_; exact Eq.mpr (Bfo ..) hl,
  fun f h hl => by
    refine Bu 0 hl fun _ _ hl => ?_; refine Bu 5 hl fun _ _ hl => ?_; exact Eq.mpr (Bfn ..) hl,
  fun f h hl => Eq.mpr (Bfm ..) hl,
  fun f h hl => by
    refine Bu 0 hl fun _ _ hl => ?_; refine Bu 5 hl fun _ _ hl => ?_; refine Bg 8 hl fun _ hl => ?_; refine Bg 9 hl fun _ hl => ?_; exact Eq.mpr (Bfl ..) hl,
  trivial⟩) rfl hg
theorem Bfg (J : J63) : zqe c k q63 u63 (f63 J) d63 Tryz.f63 .root f h = Aho c k J (f 0) h := by kernel_rfl
theorem w63 (hc : Ci c) {n : Nat} {a : List AV} (hg : f63 (r63 c k n) 0 (Ac a) h) : zqs 63 a h k :=
 zqw hc q63 Tryz.func63 rfl (by kernel_rfl) (by kernel_rfl) k u63 (fun n => f63 (r63 c k n)) (fun L _ _ hl => match L, hl with
  | 0, hl => hl
  | _ + 1, hl => hl) (fun n => ⟨
  fun f h hl => Eq.mpr (Bfg ..) hl,
  trivial⟩) rfl hg
theorem Bff (J : J64) (l_0 c_0 : Nat) : zqe c k q64 u64 (f64 J) d64 Tryz.f64 .root (Ag f 0 (.str l_0 c_0)) h = Am8 c k J l_0 c_0 h := by kernel_rfl
theorem Bfe (J : J64) (l_4 c_4 : Nat) (b_5 b_6 : Bool) (n_7 : Int) (l_8 c_8 : Nat) : zqe c k q64 u64 (f64 J) d64 Tryz.f64 (.r (.r (.r (.r (.r .root))))) (Ag (Ag (Ag (Ag (Ag f 4 (.str l_4 c_4)) 5 (.bool b_5)) 6 (.bool b_6)) 7 (.int .i64 n_7)) 8 (.str l_8 c_8)) h = Am7 c k J (f 2) l_4 c_4 b_5 b_6 n_7 l_8 c_8 h := by kernel_rfl
theorem w64 (hc : Ci c) {n : Nat} {a : List AV} (hg : f64 (r64 c k n) 0 (Ac a) h) : zqs 64 a h k :=
 zqw hc q64 Tryz.func64 rfl (by kernel_rfl) (by kernel_rfl) k u64 (fun n => f64 (r64 c k n)) (fun L _ _ hl => match L, hl with
  | 0, hl => Bv hl fun _ _ hl => hl
  | 1, hl => Bv hl fun _ _ hl => Jb hl fun _ hl => Jb hl fun _ hl => Bh hl fun _ hl => Bv hl fun _ _ hl => hl
  | _ + 2, hl => hl) (fun n => ⟨
  fun f h hl => by
    refine Bu 0 hl fun _ _ hl => ?_; exact Eq.mpr (Bff ..) hl,
  fun f h hl => by
    refine Bu 4 hl fun _ _ hl => ?_; refine Ja 5 hl fun _ hl => ?_; refine Ja 6 hl fun _ hl => ?_; refine Bg 7 hl fun _ hl => ?_; refine Bu 8 hl fun _ _ hl => ?_; exact Eq.mpr (Bfe ..) hl,
  trivial⟩) rfl hg
theorem w75 (hc : Ci c) {m : Nat} {a : List AV} (hg : Il env c q75 u75 d75 (Gs env Tryz.f75.results.toList k) m 0 (Ac a) h) : zqs 75 a h k := Jh mixed Ju hc q75 Tryz.func75 rfl (by kernel_rfl) (by kernel_rfl) (by kernel_rfl) (by simp [u75]) hg
theorem Be5 (J : J77) (l_0 c_0 : Nat) : zqe c k q77 u77 (f77 J) d77 Tryz.f77 .root (Ag f 0 (.str l_0 c_0)) h = Amy c k J l_0 c_0 h := by kernel_rfl
theorem w77 (hc : Ci c) {n : Nat} {a : List AV} (hg : f77 (r77 c k n) 0 (Ac a) h) : zqs 77 a h k :=
 zqw hc q77 Tryz.func77 rfl (by kernel_rfl) (by kernel_rfl) k u77 (fun n => f77 (r77 c k n)) (fun L _ _ hl => match L, hl with
  | 0, hl => Bv hl fun _ _ hl => hl
  | _ + 1, hl => hl) (fun n => ⟨
  fun f h hl => by
    refine Bu 0 hl fun _ _ hl => ?_; exact Eq.mpr (Be5 ..) hl,
  trivial⟩) rfl hg
theorem Be4 (J : J78) (n_0 : Int) : zqe c k q78 u78 (f78 J) d78 Tryz.f78 .root (Ag f 0 (.int .u8 n_0)) h = Amx c k J n_0 h := by kernel_rfl
theorem w78 (hc : Ci c) {n : Nat} {a : List AV} (hg : f78 (r78 c k n) 0 (Ac a) h) : zqs 78 a h k :=
 zqw hc q78 Tryz.func78 rfl (by kernel_rfl) (by kernel_rfl) k u78 (fun n => f78 (r78 c k n)) (fun L _ _ hl => match L, hl with
  | 0, hl => Bh hl fun _ hl => hl
  | _ + 1, hl => hl) (fun n => ⟨
  fun f h hl => by
    refine Bg 0 hl fun _ hl => ?_; exact Eq.mpr (Be4 ..) hl,
  trivial⟩) rfl hg
theorem Be0 (J : J80) (n_1 : Int) : zqe c k q80 u80 (f80 J) d80 Tryz.f80 .root (Ag f 1 (.int .i64 n_1)) h = Amu c k J (f 0) n_1 h := by kernel_rfl
theorem Bez (J : J80) (n_9 : Int) : zqe c k q80 u80 (f80 J) d80 Tryz.f80 (.l (.l (.r (.l (.r (.l (.r (.r (.r .root))))))))) (Ag f 9 (.int .i64 n_9)) h = Amt c k J (f 0) n_9 h := by kernel_rfl
theorem Bey (J : J80) (n_1 : Int) : zqe c k q80 u80 (f80 J) d80 Tryz.f80 (.r (.r (.r .root))) (Ag f 1 (.int .i64 n_1)) h = Ams c k J (f 0) n_1 h := by kernel_rfl
theorem w80 (hc : Ci c) {n : Nat} {a : List AV} (hg : f80 (r80 c k n) 0 (Ac a) h) : zqs 80 a h k :=
 zqw hc q80 Tryz.func80 rfl (by kernel_rfl) (by kernel_rfl) k u80 (fun n => f80 (r80 c k n)) (fun L _ _ hl => match L, hl with
  | 0, hl => Bh hl fun _ hl => hl
  | 1, hl => Bh hl fun _ hl => hl
  | 2, hl => Bh hl fun _ hl => hl
  | _ + 3, hl => hl) (fun n => ⟨
  fun f h hl => by
    refine Bg 1 hl fun _ hl => ?_; exact Eq.mpr (Be0 ..) hl,
  fun f h hl => by
    refine Bg 9 hl fun _ hl => ?_; exact Eq.mpr (Bez ..) hl,
  fun f h hl => by
    refine Bg 1 hl fun _ hl => ?_; exact Eq.mpr (Bey ..) hl,
  trivial⟩) rfl hg
theorem Bex (J : J81) : zqe c k q81 u81 (f81 J) d81 Tryz.f81 .root f h = Amr c k J (f 0) h := by kernel_rfl
theorem Bew (J : J81) (n_4 : Int) : zqe c k q81 u81 (f81 J) d81 Tryz.f81 (.l (.r (.l (.r (.r .root))))) (Ag f 4 (.int .i64 n_4)) h = Amq c k J (f 0) (f 3) n_4 h := by kernel_rfl
theorem w81 (hc : Ci c) {n : Nat} {a : List AV} (hg : f81 (r81 c k n) 0 (Ac a) h) : zqs 81 a h k :=
 zqw hc q81 Tryz.func81 rfl (by kernel_rfl) (by kernel_rfl) k u81 (fun n => f81 (r81 c k n)) (fun L _ _ hl => match L, hl with
  | 0, hl => hl
  | 1, hl => Bh hl fun _ hl => hl
  | _ + 2, hl => hl) (fun n => ⟨
  fun f h hl => Eq.mpr (Bex ..) hl,
  fun f h hl => by
    refine Bg 4 hl fun _ hl => ?_; exact Eq.mpr (Bew ..) hl,
  trivial⟩) rfl hg
theorem A8c (J : Axv) (l_0 c_0 : Nat) (l_1 c_1 : Nat) : zqe c k Bda Bbx (f109 J) d109 Tryz.f109 .root (Ag (Ag f 0 (.str l_0 c_0)) 1 (.str l_1 c_1)) h = Afh c k J l_0 c_0 l_1 c_1 h := by kernel_rfl
theorem Baz (hc : Ci c) {n : Nat} {a : List AV} (hg : f109 (Asy c k n) 0 (Ac a) h) : zqs 109 a h k :=
 zqw hc Bda Tryz.func109 rfl (by kernel_rfl) (by kernel_rfl) k Bbx (fun n => f109 (Asy c k n)) (fun L _ _ hl => match L, hl with
  | 0, hl => Bv hl fun _ _ hl => Bv hl fun _ _ hl => hl
  | _ + 1, hl => hl) (fun n => ⟨
  fun f h hl => by
    refine Bu 0 hl fun _ _ hl => ?_; refine Bu 1 hl fun _ _ hl => ?_; exact Eq.mpr (A8c ..) hl,
  trivial⟩) rfl hg
theorem A8b (J : Axu) : zqe c k Bc9 Bbw (f110 J) d110 Tryz.f110 .root f h = Afg c k J (f 0) h := by kernel_rfl
theorem Bay (hc : Ci c) {n : Nat} {a : List AV} (hg : f110 (Asx c k n) 0 (Ac a) h) : zqs 110 a h k :=
 zqw hc Bc9 Tryz.func110 rfl (by kernel_rfl) (by kernel_rfl) k Bbw (fun n => f110 (Asx c k n)) (fun L _ _ hl => match L, hl with
  | 0, hl => hl
  | _ + 1, hl => hl) (fun n => ⟨
  fun f h hl => Eq.mpr (A8b ..) hl,
  trivial⟩) rfl hg
theorem A79 (J : Axs) (l_0 c_0 : Nat) (l_1 c_1 : Nat) : zqe c k Bc7 Bbu (f112 J) d112 Tryz.f112 .root (Ag (Ag f 0 (.str l_0 c_0)) 1 (.str l_1 c_1)) h = Afe c k J l_0 c_0 l_1 c_1 h := by kernel_rfl
theorem Baw (hc : Ci c) {n : Nat} {a : List AV} (hg : f112 (Asv c k n) 0 (Ac a) h) : zqs 112 a h k :=
 zqw hc Bc7 Tryz.func112 rfl (by kernel_rfl) (by kernel_rfl) k Bbu (fun n => f112 (Asv c k n)) (fun L _ _ hl => match L, hl with
  | 0, hl => Bv hl fun _ _ hl => Bv hl fun _ _ hl => hl
  | _ + 1, hl => hl) (fun n => ⟨
  fun f h hl => by
    refine Bu 0 hl fun _ _ hl => ?_; refine Bu 1 hl fun _ _ hl => ?_; exact Eq.mpr (A79 ..) hl,
  trivial⟩) rfl hg
theorem A78 (J : Aml) (l_0 c_0 : Nat) : zqe c k A3y A26 (f113 J) d113 Tryz.f113 .root (Ag f 0 (.str l_0 c_0)) h = Afd c k J l_0 c_0 h := by kernel_rfl
theorem A77 (J : Aml) (l_0 c_0 : Nat) (b_2 : Bool) : zqe c k A3y A26 (f113 J) d113 Tryz.f113 (.r (.r .root)) (Ag (Ag f 0 (.str l_0 c_0)) 2 (.bool b_2)) h = Afc c k J l_0 c_0 b_2 h := by kernel_rfl
theorem Bav (hc : Ci c) {n : Nat} {a : List AV} (hg : f113 (Ah3 c k n) 0 (Ac a) h) : zqs 113 a h k :=
 zqw hc A3y Tryz.func113 rfl (by kernel_rfl) (by kernel_rfl) k A26 (fun n => f113 (Ah3 c k n)) (fun L _ _ hl => match L, hl with
  | 0, hl => Bv hl fun _ _ hl => hl
  | 1, hl => Bv hl fun _ _ hl => Jb hl fun _ hl => hl
  | _ + 2, hl => hl) (fun n => ⟨
  fun f h hl => by
    refine Bu 0 hl fun _ _ hl => ?_; exact Eq.mpr (A78 ..) hl,
  fun f h hl => by
    refine Bu 0 hl fun _ _ hl => ?_; refine Ja 2 hl fun _ hl => ?_; exact Eq.mpr (A77 ..) hl,
  trivial⟩) rfl hg
theorem A76 (J : Axr) (l_0 c_0 : Nat) : zqe c k Bc6 Bbt (f114 J) d114 Tryz.f114 .root (Ag f 0 (.str l_0 c_0)) h = Afb c k J l_0 c_0 h := by kernel_rfl
theorem Bau (hc : Ci c) {n : Nat} {a : List AV} (hg : f114 (Asu c k n) 0 (Ac a) h) : zqs 114 a h k :=
 zqw hc Bc6 Tryz.func114 rfl (by kernel_rfl) (by kernel_rfl) k Bbt (fun n => f114 (Asu c k n)) (fun L _ _ hl => match L, hl with
  | 0, hl => Bv hl fun _ _ hl => hl
  | _ + 1, hl => hl) (fun n => ⟨
  fun f h hl => by
    refine Bu 0 hl fun _ _ hl => ?_; exact Eq.mpr (A76 ..) hl,
  trivial⟩) rfl hg
theorem A74 (J : Axp) (l_0 c_0 : Nat) (l_1 c_1 : Nat) : zqe c k Bc4 Bbr (f116 J) d116 Tryz.f116 .root (Ag (Ag f 0 (.str l_0 c_0)) 1 (.str l_1 c_1)) h = Afa c k J l_0 c_0 l_1 c_1 h := by kernel_rfl
theorem Bas (hc : Ci c) {n : Nat} {a : List AV} (hg : f116 (Asr c k n) 0 (Ac a) h) : zqs 116 a h k :=
 zqw hc Bc4 Tryz.func116 rfl (by kernel_rfl) (by kernel_rfl) k Bbr (fun n => f116 (Asr c k n)) (fun L _ _ hl => match L, hl with
  | 0, hl => Bv hl fun _ _ hl => Bv hl fun _ _ hl => hl
  | _ + 1, hl => hl) (fun n => ⟨
  fun f h hl => by
    refine Bu 0 hl fun _ _ hl => ?_; refine Bu 1 hl fun _ _ hl => ?_; exact Eq.mpr (A74 ..) hl,
  trivial⟩) rfl hg
theorem A7z (J : Axm) : zqe c k Bc1 Bbo (f120 J) d120 Tryz.f120 .root f h = Ae5 c k J (f 0) h := by kernel_rfl
theorem Bao (hc : Ci c) {n : Nat} {a : List AV} (hg : f120 (Aso c k n) 0 (Ac a) h) : zqs 120 a h k :=
 zqw hc Bc1 Tryz.func120 rfl (by kernel_rfl) (by kernel_rfl) k Bbo (fun n => f120 (Aso c k n)) (fun L _ _ hl => match L, hl with
  | 0, hl => hl
  | _ + 1, hl => hl) (fun n => ⟨
  fun f h hl => Eq.mpr (A7z ..) hl,
  trivial⟩) rfl hg
theorem Bjc (hc : Ci c) {m : Nat} {a : List AV} (hg : Il env c A3w A24 d124 (Gs env Tryz.f124.results.toList k) m 0 (Ac a) h) : zqs 124 a h k := Jh mixed Ju hc A3w Tryz.func124 rfl (by kernel_rfl) (by kernel_rfl) (by kernel_rfl) (by simp [A24]) hg
theorem A7u (J : Ag7) (l_0 c_0 : Nat) : zqe c k Ayv Ax5 (f128 J) d128 Tryz.f128 .root (Ag f 0 (.str l_0 c_0)) h = Ae2 c k J l_0 c_0 h := by kernel_rfl
theorem A7t (J : Ag7) (l_0 c_0 : Nat) (n_4 : Int) : zqe c k Ayv Ax5 (f128 J) d128 Tryz.f128 (.l (.r (.l (.r (.r .root))))) (Ag (Ag f 0 (.str l_0 c_0)) 4 (.int .i64 n_4)) h = Ae1 c k J l_0 c_0 (f 3) n_4 h := by kernel_rfl
theorem A7s (J : Ag7) (l_0 c_0 : Nat) (n_4 : Int) : zqe c k Ayv Ax5 (f128 J) d128 Tryz.f128 (.r (.l (.r (.l (.l (.r (.l (.r (.r .root))))))))) (Ag (Ag f 0 (.str l_0 c_0)) 4 (.int .i64 n_4)) h = Ae0 c k J l_0 c_0 (f 3) n_4 h := by kernel_rfl
theorem Bal (hc : Ci c) {n : Nat} {a : List AV} (hg : f128 (Zn c k n) 0 (Ac a) h) : zqs 128 a h k :=
 zqw hc Ayv Tryz.func128 rfl (by kernel_rfl) (by kernel_rfl) k Ax5 (fun n => f128 (Zn c k n)) (fun L _ _ hl => match L, hl with
  | 0, hl => Bv hl fun _ _ hl => hl
  | 1, hl => Bv hl fun _ _ hl => Bh hl fun _ hl => hl
  | 2, hl => Bv hl fun _ _ hl => Bh hl fun _ hl => hl
  | _ + 3, hl => hl) (fun n => ⟨
  fun f h hl => by
    refine Bu 0 hl fun _ _ hl => ?_; exact Eq.mpr (A7u ..) hl,
  fun f h hl => by
    refine Bu 0 hl fun _ _ hl => ?_; refine Bg 4 hl fun _ hl => ?_; exact Eq.mpr (A7t ..) hl,
  fun f h hl => by
    refine Bu 0 hl fun _ _ hl => ?_; refine Bg 4 hl fun _ hl => ?_; exact Eq.mpr (A7s ..) hl,
  trivial⟩) rfl hg
theorem A7r (J : Axk) (n_1 : Int) : zqe c k Bcz Bbm (f129 J) d129 Tryz.f129 .root (Ag f 1 (.int .i64 n_1)) h = Aez c k J (f 0) n_1 h := by kernel_rfl
theorem Bak (hc : Ci c) {n : Nat} {a : List AV} (hg : f129 (Asm c k n) 0 (Ac a) h) : zqs 129 a h k :=
 zqw hc Bcz Tryz.func129 rfl (by kernel_rfl) (by kernel_rfl) k Bbm (fun n => f129 (Asm c k n)) (fun L _ _ hl => match L, hl with
  | 0, hl => Bh hl fun _ hl => hl
  | _ + 1, hl => hl) (fun n => ⟨
  fun f h hl => by
    refine Bg 1 hl fun _ hl => ?_; exact Eq.mpr (A7r ..) hl,
  trivial⟩) rfl hg
theorem A7l (J : Axh) (n_0 : Int) : zqe c k Bcw Bbj (f133 J) d133 Tryz.f133 .root (Ag f 0 (.int .u8 n_0)) h = Aeu c k J n_0 h := by kernel_rfl
theorem Bag (hc : Ci c) {n : Nat} {a : List AV} (hg : f133 (Asi c k n) 0 (Ac a) h) : zqs 133 a h k :=
 zqw hc Bcw Tryz.func133 rfl (by kernel_rfl) (by kernel_rfl) k Bbj (fun n => f133 (Asi c k n)) (fun L _ _ hl => match L, hl with
  | 0, hl => Bh hl fun _ hl => hl
  | _ + 1, hl => hl) (fun n => ⟨
  fun f h hl => by
    refine Bg 0 hl fun _ hl => ?_; exact Eq.mpr (A7l ..) hl,
  trivial⟩) rfl hg
theorem A7i (J : Ag5) (n_1 : Int) : zqe c k Ayt Ax3 (f135 J) d135 Tryz.f135 .root (Ag f 1 (.int .i64 n_1)) h = Aer c k J (f 0) n_1 h := by kernel_rfl
theorem A7h (J : Ag5) (n_1 n_6 : Int) : zqe c k Ayt Ax3 (f135 J) d135 Tryz.f135 (.l (.r (.l (.r (.r .root))))) (Ag (Ag f 1 (.int .i64 n_1)) 6 (.int .i64 n_6)) h = Aeq c k J (f 0) n_1 (f 5) n_6 h := by kernel_rfl
theorem A7g (J : Ag5) (n_1 n_6 n_7 : Int) : zqe c k Ayt Ax3 (f135 J) d135 Tryz.f135 (.l (.l (.r (.l (.l (.r (.l (.l (.r (.l (.r (.r .root)))))))))))) (Ag (Ag (Ag f 1 (.int .i64 n_1)) 6 (.int .i64 n_6)) 7 (.int .i64 n_7)) h = Aep c k J (f 0) n_1 (f 5) n_6 n_7 h := by kernel_rfl
theorem Bae (hc : Ci c) {n : Nat} {a : List AV} (hg : f135 (Zl c k n) 0 (Ac a) h) : zqs 135 a h k :=
 zqw hc Ayt Tryz.func135 rfl (by kernel_rfl) (by kernel_rfl) k Ax3 (fun n => f135 (Zl c k n)) (fun L _ _ hl => match L, hl with
  | 0, hl => Bh hl fun _ hl => hl
  | 1, hl => Bh hl fun _ hl => Bh hl fun _ hl => hl
  | 2, hl => Bh hl fun _ hl => Bh hl fun _ hl => Bh hl fun _ hl => hl
  | _ + 3, hl => hl) (fun n => ⟨
  fun f h hl => by
    refine Bg 1 hl fun _ hl => ?_; exact Eq.mpr (A7i ..) hl,
  fun f h hl => by
    refine Bg 1 hl fun _ hl => ?_; refine Bg 6 hl fun _ hl => ?_; exact Eq.mpr (A7h ..) hl,
  fun f h hl => by
    refine Bg 1 hl fun _ hl => ?_; refine Bg 6 hl fun _ hl => ?_; refine Bg 7 hl fun _ hl => ?_; exact Eq.mpr (A7g ..) hl,
  trivial⟩) rfl hg
theorem A67 (J : Axe) (l_0 c_0 : Nat) (n_1 : Int) : zqe c k Bct Bbg (f162 J) d162 Tryz.f162 .root (Ag (Ag f 0 (.str l_0 c_0)) 1 (.int .i32 n_1)) h = Aeh c k J l_0 c_0 n_1 h := by kernel_rfl
theorem Baa (hc : Ci c) {n : Nat} {a : List AV} (hg : f162 (Asf c k n) 0 (Ac a) h) : zqs 162 a h k :=
 zqw hc Bct Tryz.func162 rfl (by kernel_rfl) (by kernel_rfl) k Bbg (fun n => f162 (Asf c k n)) (fun L _ _ hl => match L, hl with
  | 0, hl => Bv hl fun _ _ hl => Bh hl fun _ hl => hl
  | 1, hl => hl
  | 2, hl => hl
  | 3, hl => hl
  | 4, hl => hl
  | 5, hl => hl
  | 6, hl => hl
  | 7, hl => hl
  | 8, hl => hl
  | 9, hl => hl
  | 10, hl => hl
  | 11, hl => hl
  | 12, hl => hl
  | 13, hl => hl
  | 14, hl => hl
  | 15, hl => hl
  | 16, hl => hl
  | 17, hl => hl
  | 18, hl => hl
  | 19, hl => hl
  | 20, hl => hl
  | 21, hl => hl
  | 22, hl => hl
  | _ + 23, hl => hl) (fun n => ⟨
  fun f h hl => by
    refine Bu 0 hl fun _ _ hl => ?_; refine Bg 1 hl fun _ hl => ?_; exact Eq.mpr (A67 ..) hl,
  fun _ _ hl => False.elim hl,
  fun _ _ hl => False.elim hl,
  fun _ _ hl => False.elim hl,
  fun _ _ hl => False.elim hl,
  fun _ _ hl => False.elim hl,
  fun _ _ hl => False.elim hl,
  fun _ _ hl => False.elim hl,
  fun _ _ hl => False.elim hl,
  fun _ _ hl => False.elim hl,
  fun _ _ hl => False.elim hl,
  fun _ _ hl => False.elim hl,
  fun _ _ hl => False.elim hl,
  fun _ _ hl => False.elim hl,
  fun _ _ hl => False.elim hl,
  fun _ _ hl => False.elim hl,
  fun _ _ hl => False.elim hl,
  fun _ _ hl => False.elim hl,
  fun _ _ hl => False.elim hl,
  fun _ _ hl => False.elim hl,
  fun _ _ hl => False.elim hl,
  fun _ _ hl => False.elim hl,
  fun _ _ hl => False.elim hl,
  trivial⟩) rfl hg
theorem A65 (J : Axc) (l_1 c_1 : Nat) : zqe c k Bcr Bbe (f166 J) d166 Tryz.f166 .root (Ag f 1 (.str l_1 c_1)) h = Aef c k J (f 0) l_1 c_1 h := by kernel_rfl
theorem A98 (hc : Ci c) {n : Nat} {a : List AV} (hg : f166 (Asd c k n) 0 (Ac a) h) : zqs 166 a h k :=
 zqw hc Bcr Tryz.func166 rfl (by kernel_rfl) (by kernel_rfl) k Bbe (fun n => f166 (Asd c k n)) (fun L _ _ hl => match L, hl with
  | 0, hl => Bv hl fun _ _ hl => hl
  | _ + 1, hl => hl) (fun n => ⟨
  fun f h hl => by
    refine Bu 1 hl fun _ _ hl => ?_; exact Eq.mpr (A65 ..) hl,
  trivial⟩) rfl hg
theorem Bja (hc : Ci c) {m : Nat} {a : List AV} (hg : Il env c A3t A21 d168 (Gs env Tryz.f168.results.toList k) m 0 (Ac a) h) : zqs 168 a h k := Jh mixed Ju hc A3t Tryz.func168 rfl (by kernel_rfl) (by kernel_rfl) (by kernel_rfl) (by simp [A21]) hg
theorem A64 (J : Ami) (l_0 c_0 : Nat) : zqe c k A3s A20 (f169 J) d169 Tryz.f169 .root (Ag f 0 (.str l_0 c_0)) h = Aee c k J l_0 c_0 (f 1) h := by kernel_rfl
theorem A63 (J : Ami) (l_0 c_0 : Nat) : zqe c k A3s A20 (f169 J) d169 Tryz.f169 (.l (.l (.r .root))) (Ag f 0 (.str l_0 c_0)) h = Aed c k J l_0 c_0 (f 1) h := by kernel_rfl
theorem A97 (hc : Ci c) {n : Nat} {a : List AV} (hg : f169 (Ah1 c k n) 0 (Ac a) h) : zqs 169 a h k :=
 zqw hc A3s Tryz.func169 rfl (by kernel_rfl) (by kernel_rfl) k A20 (fun n => f169 (Ah1 c k n)) (fun L _ _ hl => match L, hl with
  | 0, hl => Bv hl fun _ _ hl => hl
  | 1, hl => Bv hl fun _ _ hl => hl
  | _ + 2, hl => hl) (fun n => ⟨
  fun f h hl => by
    refine Bu 0 hl fun _ _ hl => ?_; exact Eq.mpr (A64 ..) hl,
  fun f h hl => by
    refine Bu 0 hl fun _ _ hl => ?_; exact Eq.mpr (A63 ..) hl,
  trivial⟩) rfl hg
theorem A62 (J : Axb) (l_0 c_0 : Nat) (l_1 c_1 : Nat) : zqe c k Bcq Bbd (f171 J) d171 Tryz.f171 .root (Ag (Ag f 0 (.str l_0 c_0)) 1 (.str l_1 c_1)) h = Aec c k J l_0 c_0 l_1 c_1 h := by kernel_rfl
theorem A96 (hc : Ci c) {n : Nat} {a : List AV} (hg : f171 (Asc c k n) 0 (Ac a) h) : zqs 171 a h k :=
 zqw hc Bcq Tryz.func171 rfl (by kernel_rfl) (by kernel_rfl) k Bbd (fun n => f171 (Asc c k n)) (fun L _ _ hl => match L, hl with
  | 0, hl => Bv hl fun _ _ hl => Bv hl fun _ _ hl => hl
  | _ + 1, hl => hl) (fun n => ⟨
  fun f h hl => by
    refine Bu 0 hl fun _ _ hl => ?_; refine Bu 1 hl fun _ _ hl => ?_; exact Eq.mpr (A62 ..) hl,
  trivial⟩) rfl hg
theorem Avd (J : Aw8) (b_1 : Bool) : zqe c k A3p A2x (f178 J) d178 Tryz.f178 .root (Ag f 1 (.bool b_1)) h = Art c k J (f 0) b_1 h := by kernel_rfl
theorem Bi7 (hc : Ci c) {n : Nat} {a : List AV} (hg : f178 (Aku c k n) 0 (Ac a) h) : zqs 178 a h k :=
 zqw hc A3p Tryz.func178 rfl (by kernel_rfl) (by kernel_rfl) k A2x (fun n => f178 (Aku c k n)) (fun L _ _ hl => match L, hl with
  | 0, hl => Jb hl fun _ hl => hl
  | _ + 1, hl => hl) (fun n => ⟨
  fun f h hl => by
    refine Ja 1 hl fun _ hl => ?_; exact Eq.mpr (Avd ..) hl,
  trivial⟩) rfl hg
theorem A9q (hc : Ci c) {n : Nat} {a : List AV} (hg : f178 (Aku c k n) 0 (Ac a) h) : A2b 178 a h k :=
 A9f hc A3p Tryz.func178 rfl (by kernel_rfl) (by kernel_rfl) k A2x (fun n => f178 (Aku c k n)) (fun L _ _ hl => match L, hl with
  | 0, hl => Jb hl fun _ hl => hl
  | _ + 1, hl => hl) (fun n => ⟨
  fun f h hl => by
    refine Ja 1 hl fun _ hl => ?_; exact Eq.mpr (Avd ..) hl,
  trivial⟩) rfl hg
theorem A6s (J : Aw7) : zqe c k Bco Bbb (f182 J) d182 Tryz.f182 .root f h = Ad2 c k J  h := by kernel_rfl
theorem A92 (hc : Ci c) {n : Nat} {a : List AV} (hg : f182 (Asa c k n) 0 (Ac a) h) : zqs 182 a h k :=
 zqw hc Bco Tryz.func182 rfl (by kernel_rfl) (by kernel_rfl) k Bbb (fun n => f182 (Asa c k n)) (fun L _ _ hl => match L, hl with
  | 0, hl => hl
  | _ + 1, hl => hl) (fun n => ⟨
  fun f h hl => Eq.mpr (A6s ..) hl,
  trivial⟩) rfl hg
theorem A6r (J : Aw6) (l_0 c_0 : Nat) (n_1 : Int) : zqe c k Bcn Bba (f207 J) d207 Tryz.f207 .root (Ag (Ag f 0 (.str l_0 c_0)) 1 (.int .u8 n_1)) h = Ad1 c k J l_0 c_0 n_1 h := by kernel_rfl
theorem A91 (hc : Ci c) {n : Nat} {a : List AV} (hg : f207 (Ar9 c k n) 0 (Ac a) h) : zqs 207 a h k :=
 zqw hc Bcn Tryz.func207 rfl (by kernel_rfl) (by kernel_rfl) k Bba (fun n => f207 (Ar9 c k n)) (fun L _ _ hl => match L, hl with
  | 0, hl => Bv hl fun _ _ hl => Bh hl fun _ hl => hl
  | _ + 1, hl => hl) (fun n => ⟨
  fun f h hl => by
    refine Bu 0 hl fun _ _ hl => ?_; refine Bg 1 hl fun _ hl => ?_; exact Eq.mpr (A6r ..) hl,
  trivial⟩) rfl hg
theorem A6q (J : Amg) (n_1 : Int) : zqe c k A3n A2v (f208 J) d208 Tryz.f208 .root (Ag f 1 (.int .i64 n_1)) h = Ad0 c k J (f 0) n_1 h := by kernel_rfl
theorem A6p (J : Amg) (n_1 : Int) : zqe c k A3n A2v (f208 J) d208 Tryz.f208 (.r (.r .root)) (Ag f 1 (.int .i64 n_1)) h = Adz c k J (f 0) n_1 h := by kernel_rfl
theorem A90 (hc : Ci c) {n : Nat} {a : List AV} (hg : f208 (Akt c k n) 0 (Ac a) h) : zqs 208 a h k :=
 zqw hc A3n Tryz.func208 rfl (by kernel_rfl) (by kernel_rfl) k A2v (fun n => f208 (Akt c k n)) (fun L _ _ hl => match L, hl with
  | 0, hl => Bh hl fun _ hl => hl
  | 1, hl => Bh hl fun _ hl => hl
  | _ + 2, hl => hl) (fun n => ⟨
  fun f h hl => by
    refine Bg 1 hl fun _ hl => ?_; exact Eq.mpr (A6q ..) hl,
  fun f h hl => by
    refine Bg 1 hl fun _ hl => ?_; exact Eq.mpr (A6p ..) hl,
  trivial⟩) rfl hg
theorem Bi6 (hc : Ci c) {m : Nat} {a : List AV} (hg : Il env c A3m A2u d214 (Gs env Tryz.f214.results.toList k) m 0 (Ac a) h) : zqs 214 a h k := Jh mixed Ju hc A3m Tryz.func214 rfl (by kernel_rfl) (by kernel_rfl) (by kernel_rfl) (by simp [A2u]) hg
theorem A6o (J : Aw5) (n_1 : Int) : zqe c k Bcm Ba9 (f215 J) d215 Tryz.f215 .root (Ag f 1 (.int .u8 n_1)) h = Ady c k J (f 0) n_1 h := by kernel_rfl
theorem A9z (hc : Ci c) {n : Nat} {a : List AV} (hg : f215 (Ar8 c k n) 0 (Ac a) h) : zqs 215 a h k :=
 zqw hc Bcm Tryz.func215 rfl (by kernel_rfl) (by kernel_rfl) k Ba9 (fun n => f215 (Ar8 c k n)) (fun L _ _ hl => match L, hl with
  | 0, hl => Bh hl fun _ hl => hl
  | _ + 1, hl => hl) (fun n => ⟨
  fun f h hl => by
    refine Bg 1 hl fun _ hl => ?_; exact Eq.mpr (A6o ..) hl,
  trivial⟩) rfl hg
theorem A6k (J : Aw3) (l_0 c_0 : Nat) (l_1 c_1 : Nat) : zqe c k Bck Ba7 (f224 J) d224 Tryz.f224 .root (Ag (Ag f 0 (.str l_0 c_0)) 1 (.str l_1 c_1)) h = Adv c k J l_0 c_0 l_1 c_1 h := by kernel_rfl
theorem A9w (hc : Ci c) {n : Nat} {a : List AV} (hg : f224 (Ar6 c k n) 0 (Ac a) h) : zqs 224 a h k :=
 zqw hc Bck Tryz.func224 rfl (by kernel_rfl) (by kernel_rfl) k Ba7 (fun n => f224 (Ar6 c k n)) (fun L _ _ hl => match L, hl with
  | 0, hl => Bv hl fun _ _ hl => Bv hl fun _ _ hl => hl
  | _ + 1, hl => hl) (fun n => ⟨
  fun f h hl => by
    refine Bu 0 hl fun _ _ hl => ?_; refine Bu 1 hl fun _ _ hl => ?_; exact Eq.mpr (A6k ..) hl,
  trivial⟩) rfl hg
theorem Bi4 (hc : Ci c) {m : Nat} {a : List AV} (hg : Il env c A3j A2r d228 (Gs env Tryz.f228.results.toList k) m 0 (Ac a) h) : zqs 228 a h k := Jh mixed Ju hc A3j Tryz.func228 rfl (by kernel_rfl) (by kernel_rfl) (by kernel_rfl) (by simp [A2r]) hg
theorem A6j (J : Aw2) (n_1 : Int) : zqe c k Bcj Ba6 (f258 J) d258 Tryz.f258 .root (Ag f 1 (.int .i64 n_1)) h = Adu c k J (f 0) n_1 h := by kernel_rfl
theorem A9v (hc : Ci c) {n : Nat} {a : List AV} (hg : f258 (Ar5 c k n) 0 (Ac a) h) : zqs 258 a h k :=
 zqw hc Bcj Tryz.func258 rfl (by kernel_rfl) (by kernel_rfl) k Ba6 (fun n => f258 (Ar5 c k n)) (fun L _ _ hl => match L, hl with
  | 0, hl => Bh hl fun _ hl => hl
  | _ + 1, hl => hl) (fun n => ⟨
  fun f h hl => by
    refine Bg 1 hl fun _ hl => ?_; exact Eq.mpr (A6j ..) hl,
  trivial⟩) rfl hg
theorem Bi2 (hc : Ci c) {m : Nat} {a : List AV} (hg : Il env c A3h A2p d263 (Gs env Tryz.f263.results.toList k) m 0 (Ac a) h) : zqs 263 a h k := Jh mixed Ju hc A3h Tryz.func263 rfl (by kernel_rfl) (by kernel_rfl) (by kernel_rfl) (by simp [A2p]) hg
theorem A6h (J : Qv) (l_1 c_1 : Nat) : zqe c k Ah4 Ahg (f374 J) d374 Tryz.f374 .root (Ag f 1 (.str l_1 c_1)) h = Ads c k J (f 0) l_1 c_1 h := by kernel_rfl
theorem A6g (J : Qv) (l_1 c_1 : Nat) (n_5 : Int) (b_6 : Bool) (n_31 n_32 : Int) : zqe c k Ah4 Ahg (f374 J) d374 Tryz.f374 (.l (.r (.l (.r (.l (.r (.r (.r .root)))))))) (Ag (Ag (Ag (Ag (Ag f 1 (.str l_1 c_1)) 5 (.int .i64 n_5)) 6 (.bool b_6)) 31 (.int .i64 n_31)) 32 (.int .i64 n_32)) h = Zb c k J (f 0) l_1 c_1 n_5 b_6 (f 30) n_31 n_32 h := by kernel_rfl
theorem A6f (J : Qv) (l_1 c_1 : Nat) (n_5 : Int) (b_6 : Bool) (n_10 : Int) : zqe c k Ah4 Ahg (f374 J) d374 Tryz.f374 (.l (.r (.r (.r (.l (.r (.r (.r .root)))))))) (Ag (Ag (Ag (Ag f 1 (.str l_1 c_1)) 5 (.int .i64 n_5)) 6 (.bool b_6)) 10 (.int .i64 n_10)) h = Adr c k J (f 0) l_1 c_1 n_5 b_6 n_10 h := by kernel_rfl
theorem A6e (J : Qv) (l_1 c_1 : Nat) (n_5 : Int) (b_6 : Bool) (n_10 : Int) : zqe c k Ah4 Ahg (f374 J) d374 Tryz.f374 (.r (.r (.l (.l (.r (.r (.r (.l (.r (.r (.r .root))))))))))) (Ag (Ag (Ag (Ag f 1 (.str l_1 c_1)) 5 (.int .i64 n_5)) 6 (.bool b_6)) 10 (.int .i64 n_10)) h = Za c k J (f 0) l_1 c_1 n_5 b_6 n_10 h := by kernel_rfl
theorem A6d (J : Qv) (l_1 c_1 : Nat) (n_13 n_14 : Int) : zqe c k Ah4 Ahg (f374 J) d374 Tryz.f374 (.l (.r (.l (.r (.r (.r (.r (.r (.r (.r .root)))))))))) (Ag (Ag (Ag f 1 (.str l_1 c_1)) 13 (.int .i64 n_13)) 14 (.int .i64 n_14)) h = Adq c k J (f 0) l_1 c_1 (f 12) n_13 n_14 h := by kernel_rfl
theorem A6c (J : Qv) (l_1 c_1 : Nat) (n_13 n_14 : Int) : zqe c k Ah4 Ahg (f374 J) d374 Tryz.f374 (.r (.r (.l (.l (.r (.l (.r (.r (.r (.r (.r (.r (.r .root))))))))))))) (Ag (Ag (Ag f 1 (.str l_1 c_1)) 13 (.int .i64 n_13)) 14 (.int .i64 n_14)) h = Adp c k J (f 0) l_1 c_1 (f 12) n_13 n_14 h := by kernel_rfl
theorem A6b (J : Qv) (l_1 c_1 : Nat) (n_5 : Int) (b_6 : Bool) : zqe c k Ah4 Ahg (f374 J) d374 Tryz.f374 (.r (.r (.r (.r .root)))) (Ag (Ag (Ag f 1 (.str l_1 c_1)) 5 (.int .i64 n_5)) 6 (.bool b_6)) h = Ado c k J (f 0) l_1 c_1 n_5 b_6 h := by kernel_rfl
theorem A9t (hc : Ci c) {n : Nat} {a : List AV} (hg : f374 (Kn c k n) 0 (Ac a) h) : zqs 374 a h k :=
 zqw hc Ah4 Tryz.func374 rfl (by kernel_rfl) (by kernel_rfl) k Ahg (fun n => f374 (Kn c k n)) (fun L _ _ hl => match L, hl with
  | 0, hl => Bv hl fun _ _ hl => hl
  | 1, hl => Bv hl fun _ _ hl => Bh hl fun _ hl => Jb hl fun _ hl => Bh hl fun _ hl => Bh hl fun _ hl => hl
  | 2, hl => Bv hl fun _ _ hl => Bh hl fun _ hl => Jb hl fun _ hl => Bh hl fun _ hl => hl
  | 3, hl => Bv hl fun _ _ hl => Bh hl fun _ hl => Jb hl fun _ hl => Bh hl fun _ hl => hl
  | 4, hl => Bv hl fun _ _ hl => Bh hl fun _ hl => Bh hl fun _ hl => hl
  | 5, hl => Bv hl fun _ _ hl => Bh hl fun _ hl => Bh hl fun _ hl => hl
  | 6, hl => Bv hl fun _ _ hl => Bh hl fun _ hl => Jb hl fun _ hl => hl
  | _ + 7, hl => hl) (fun n => ⟨
  fun f h hl => by
    refine Bu 1 hl fun _ _ hl => ?_; exact Eq.mpr (A6h ..) hl,
  fun f h hl => by
    refine Bu 1 hl fun _ _ hl => ?_; refine Bg 5 hl fun _ hl => ?_; refine Ja 6 hl fun _ hl => ?_; refine Bg 31 hl fun _ hl => ?_; refine Bg 32 hl fun _ hl => ?_; exact Eq.mpr (A6g ..) hl,
  fun f h hl => by
    refine Bu 1 hl fun _ _ hl => ?_; refine Bg 5 hl fun _ hl => ?_; refine Ja 6 hl fun _ hl => ?_; refine Bg 10 hl fun _ hl => ?_; exact Eq.mpr (A6f ..) hl,
  fun f h hl => by
    refine Bu 1 hl fun _ _ hl => ?_; refine Bg 5 hl fun _ hl => ?_; refine Ja 6 hl fun _ hl => ?_; refine Bg 10 hl fun _ hl => ?_; exact Eq.mpr (A6e ..) hl,
  fun f h hl => by
    refine Bu 1 hl fun _ _ hl => ?_; refine Bg 13 hl fun _ hl => ?_; refine Bg 14 hl fun _ hl => ?_; exact Eq.mpr (A6d ..) hl,
  fun f h hl => by
    refine Bu 1 hl fun _ _ hl => ?_; refine Bg 13 hl fun _ hl => ?_; refine Bg 14 hl fun _ hl => ?_; exact Eq.mpr (A6c ..) hl,
  fun f h hl => by
    refine Bu 1 hl fun _ _ hl => ?_; refine Bg 5 hl fun _ hl => ?_; refine Ja 6 hl fun _ hl => ?_; exact Eq.mpr (A6b ..) hl,
  trivial⟩) rfl hg
end Go.Den
