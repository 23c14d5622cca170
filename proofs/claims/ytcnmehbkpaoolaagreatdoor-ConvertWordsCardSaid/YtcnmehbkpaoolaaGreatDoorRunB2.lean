/-
  A part of the proof: the pieces are what the program Ap8.
-/
import Derived.Test.YtcnmehbkpaoolaaGreatDoorRunA1
import Derived.KernelRfl
namespace Go.Den
open Go.Proofs
set_option maxRecDepth 100000
variable {c : CF} {k : KV} {f : FT} {h : H}
theorem Bk9 (J : J6) (n_0 : Int) (l_1 c_1 : Nat) : zqe c k q6 u6 (f6 J) d6 Tryz.f6 .root (Ag (Ag f 0 (.int .i64 n_0)) 1 (.str l_1 c_1)) h = Ax6 c k J n_0 l_1 c_1 h := by kernel_rfl
theorem Bk8 (J : J6) (n_0 : Int) (l_1 c_1 : Nat) (n_5 : Int) : zqe c k q6 u6 (f6 J) d6 Tryz.f6 (.l (.r (.l (.r .root)))) (Ag (Ag (Ag f 0 (.int .i64 n_0)) 1 (.str l_1 c_1)) 5 (.int .i64 n_5)) h = Ax5 c k J n_0 l_1 c_1 n_5 h := by kernel_rfl
theorem Bk7 (J : J6) (l_1 c_1 : Nat) (l_7 c_7 : Nat) (b_8 : Bool) (n_9 : Int) : zqe c k q6 u6 (f6 J) d6 Tryz.f6 (.l (.r (.l (.r (.r (.r (.r (.r (.r .root))))))))) (Ag (Ag (Ag (Ag f 1 (.str l_1 c_1)) 7 (.str l_7 c_7)) 8 (.bool b_8)) 9 (.int .i64 n_9)) h = Arm c k J l_1 c_1 (f 6) l_7 c_7 b_8 n_9 h := by kernel_rfl
theorem w6 (hc : zqco c) {n : Nat} {a : List AV} (hg : f6 (r6 c k n) 0 (Ac a) h) : zqs 6 a h k :=
 zqw hc q6 Tryz.func6 rfl (by kernel_rfl) (by kernel_rfl) k u6 (fun n => f6 (r6 c k n)) (fun L _ _ hl => match L, hl with
  | 0, hl => zqnI hl fun _ hl => zqnS hl fun _ _ hl => hl
  | 1, hl => zqnI hl fun _ hl => zqnS hl fun _ _ hl => zqnI hl fun _ hl => hl
  | 2, hl => zqnS hl fun _ _ hl => zqnS hl fun _ _ hl => zqnB hl fun _ hl => zqnI hl fun _ hl => hl
  | _ + 3, hl => hl) (fun n => ⟨
  fun f h hl => by
    refine zqrI 0 hl fun _ hl => ?_; refine zqrS 1 hl fun _ _ hl => ?_; exact Eq.mpr (Bk9 ..) hl,
  fun f h hl => by
    refine zqrI 0 hl fun _ hl => ?_; refine zqrS 1 hl fun _ _ hl => ?_; refine zqrI 5 hl fun _ hl => ?_; exact Eq.mpr (Bk8 ..) hl,
  fun f h hl => by
    refine zqrS 1 hl fun _ _ hl => ?_; refine zqrS 7 hl fun _ _ hl => ?_; refine zqrB 8 hl fun _ hl => ?_; refine zqrI 9 hl fun _ hl => ?_; exact Eq.mpr (Bk7 ..) hl,
  trivial⟩) rfl hg
theorem w15 (hc : zqco c) {m : Nat} {a : List AV} (hg : Kt env c q15 u15 d15 (Hq env Tryz.f15.results.toList k) m 0 (Ac a) h) : zqs 15 a h k := Kw mixed Jy hc q15 Tryz.func15 rfl (by kernel_rfl) (by kernel_rfl) (by kernel_rfl) (by simp [u15]) hg
theorem Bfl (J : J16) : zqe c k q16 u16 (f16 J) d16 Tryz.f16 .root f h = Anj c k J (f 0) h := by kernel_rfl
theorem Bfk (J : J16) (n_5 : Int) : zqe c k q16 u16 (f16 J) d16 Tryz.f16 (.l (.r (.l (.r (.r .root))))) (Ag f 5 (.int .i64 n_5)) h = Ani c k J (f 0) (f 4) n_5 h := by kernel_rfl
theorem Bfj (J : J16) (n_5 : Int) : zqe c k q16 u16 (f16 J) d16 Tryz.f16 (.r (.r (.r (.r (.l (.r (.l (.l (.r (.l (.r (.r .root)))))))))))) (Ag f 5 (.int .i64 n_5)) h = Anh c k J (f 0) (f 4) n_5 h := by kernel_rfl
theorem w16 (hc : zqco c) {n : Nat} {a : List AV} (hg : f16 (r16 c k n) 0 (Ac a) h) : zqs 16 a h k :=
 zqw hc q16 Tryz.func16 rfl (by kernel_rfl) (by kernel_rfl) k u16 (fun n => f16 (r16 c k n)) (fun L _ _ hl => match L, hl with
  | 0, hl => hl
  | 1, hl => zqnI hl fun _ hl => hl
  | 2, hl => zqnI hl fun _ hl => hl
  | _ + 3, hl => hl) (fun n => ⟨
  fun f h hl => Eq.mpr (Bfl ..) hl,
  fun f h hl => by
    refine zqrI 5 hl fun _ hl => ?_; exact Eq.mpr (Bfk ..) hl,
  fun f h hl => by
    refine zqrI 5 hl fun _ hl => ?_; exact Eq.mpr (Bfj ..) hl,
  trivial⟩) rfl hg
theorem Bfh (J : J22) (l_0 c_0 : Nat) : zqe c k q22 u22 (f22 J) d22 Tryz.f22 .root (Ag f 0 (.str l_0 c_0)) h = Anf c k J l_0 c_0 h := by kernel_rfl
theorem Bfg (J : J22) (n_6 : Int) : zqe c k q22 u22 (f22 J) d22 Tryz.f22 (.l (.r (.l (.r (.r (.r .root)))))) (Ag f 6 (.int .i64 n_6)) h = Ahl c k J (f 3) (f 5) n_6 h := by kernel_rfl
theorem w22 (hc : zqco c) {n : Nat} {a : List AV} (hg : f22 (r22 c k n) 0 (Ac a) h) : zqs 22 a h k :=
 zqw hc q22 Tryz.func22 rfl (by kernel_rfl) (by kernel_rfl) k u22 (fun n => f22 (r22 c k n)) (fun L _ _ hl => match L, hl with
  | 0, hl => zqnS hl fun _ _ hl => hl
  | 1, hl => zqnI hl fun _ hl => hl
  | _ + 2, hl => hl) (fun n => ⟨
  fun f h hl => by
    refine zqrS 0 hl fun _ _ hl => ?_; exact Eq.mpr (Bfh ..) hl,
  fun f h hl => by
    refine zqrI 6 hl fun _ hl => ?_; exact Eq.mpr (Bfg ..) hl,
  trivial⟩) rfl hg
theorem Bff (J : J23) (n_0 n_1 : Int) : zqe c k q23 u23 (f23 J) d23 Tryz.f23 .root (Ag (Ag f 0 (.int .i64 n_0)) 1 (.int .i64 n_1)) h = Ane c k J n_0 n_1 h := by kernel_rfl
theorem w23 (hc : zqco c) {n : Nat} {a : List AV} (hg : f23 (r23 c k n) 0 (Ac a) h) : zqs 23 a h k :=
 zqw hc q23 Tryz.func23 rfl (by kernel_rfl) (by kernel_rfl) k u23 (fun n => f23 (r23 c k n)) (fun L _ _ hl => match L, hl with
  | 0, hl => zqnI hl fun _ hl => zqnI hl fun _ hl => hl
  | _ + 1, hl => hl) (fun n => ⟨
  fun f h hl => by
    refine zqrI 0 hl fun _ hl => ?_; refine zqrI 1 hl fun _ hl => ?_; exact Eq.mpr (Bff ..) hl,
  trivial⟩) rfl hg
theorem Bfe (J : J34) (n_1 : Int) : zqe c k q34 u34 (f34 J) d34 Tryz.f34 .root (Ag f 1 (.int .i64 n_1)) h = Anb c k J (f 0) n_1 h := by kernel_rfl
theorem Bfd (J : J34) (n_1 : Int) (l_7 c_7 : Nat) (b_8 : Bool) (n_9 n_10 : Int) : zqe c k q34 u34 (f34 J) d34 Tryz.f34 (.l (.r (.l (.r (.r (.r (.r .root))))))) (Ag (Ag (Ag (Ag (Ag f 1 (.int .i64 n_1)) 7 (.str l_7 c_7)) 8 (.bool b_8)) 9 (.int .i64 n_9)) 10 (.int .i64 n_10)) h = Ana c k J (f 0) n_1 (f 5) (f 6) l_7 c_7 b_8 n_9 n_10 h := by kernel_rfl
theorem Bfc (J : J34) (n_1 : Int) (l_7 c_7 : Nat) (b_8 : Bool) (n_10 : Int) (l_12 c_12 : Nat) : zqe c k q34 u34 (f34 J) d34 Tryz.f34 (.r (.r (.r (.r (.r (.r (.l (.l (.r (.l (.l (.r (.l (.r (.r (.r (.r .root))))))))))))))))) (Ag (Ag (Ag (Ag (Ag f 1 (.int .i64 n_1)) 7 (.str l_7 c_7)) 8 (.bool b_8)) 10 (.int .i64 n_10)) 12 (.str l_12 c_12)) h = Am9 c k J (f 0) n_1 (f 5) (f 6) l_7 c_7 b_8 n_10 l_12 c_12 h := by kernel_rfl
theorem Bfb (J : J34) (n_1 : Int) (l_7 c_7 : Nat) (b_8 : Bool) (n_9 n_10 : Int) : zqe c k q34 u34 (f34 J) d34 Tryz.f34 (.r (.r (.l (.l (.r (.l (.r (.r (.r (.r .root)))))))))) (Ag (Ag (Ag (Ag (Ag f 1 (.int .i64 n_1)) 7 (.str l_7 c_7)) 8 (.bool b_8)) 9 (.int .i64 n_9)) 10 (.int .i64 n_10)) h = Am8 c k J (f 0) n_1 (f 5) (f 6) l_7 c_7 b_8 n_9 n_10 h := by kernel_rfl
theorem Bfa (J : J34) (n_1 : Int) (l_7 c_7 : Nat) (n_9 : Int) : zqe c k q34 u34 (f34 J) d34 Tryz.f34 (.r (.r (.r (.r (.r .root))))) (Ag (Ag (Ag f 1 (.int .i64 n_1)) 7 (.str l_7 c_7)) 9 (.int .i64 n_9)) h = Am7 c k J (f 0) n_1 (f 5) (f 6) l_7 c_7 n_9 h := by kernel_rfl
theorem w34 (hc : zqco c) {n : Nat} {a : List AV} (hg : f34 (r34 c k n) 0 (Ac a) h) : zqs 34 a h k :=
 zqw hc q34 Tryz.func34 rfl (by kernel_rfl) (by kernel_rfl) k u34 (fun n => f34 (r34 c k n)) (fun L _ _ hl => match L, hl with
  | 0, hl => zqnI hl fun _ hl => hl
  | 1, hl => zqnI hl fun _ hl => zqnS hl fun _ _ hl => zqnB hl fun _ hl => zqnI hl fun _ hl => zqnI hl fun _ hl => hl
  | 2, hl => zqnI hl fun _ hl => zqnS hl fun _ _ hl => zqnB hl fun _ hl => zqnI hl fun _ hl => zqnS hl fun _ _ hl => hl
  | 3, hl => zqnI hl fun _ hl => zqnS hl fun _ _ hl => zqnB hl fun _ hl => zqnI hl fun _ hl => zqnI hl fun _ hl => hl
  | 4, hl => zqnI hl fun _ hl => zqnS hl fun _ _ hl => zqnI hl fun _ hl => hl
  | _ + 5, hl => hl) (fun n => ⟨
  fun f h hl => by
    refine zqrI 1 hl fun _ hl => ?_; exact Eq.mpr (Bfe ..) hl,
  fun f h hl => by
    refine zqrI 1 hl fun _ hl => ?_; refine zqrS 7 hl fun _ _ hl => ?_; refine zqrB 8 hl fun _ hl => ?_; refine zqrI 9 hl fun _ hl => ?_; refine zqrI 10 hl fun _ hl => ?_; exact Eq.mpr (Bfd ..) hl,
  fun f h hl => by
    refine zqrI 1 hl fun _ hl => ?_; refine zqrS 7 hl fun _ _ hl => ?_; refine zqrB 8 hl fun _ hl => ?_; refine zqrI 10 hl fun _ hl => ?_; refine zqrS 12 hl fun _ _ hl => ?_; exact Eq.mpr (Bfc ..) hl,
  fun f h hl => by
    refine zqrI 1 hl fun _ hl => ?_; refine zqrS 7 hl fun _ _ hl => ?_; refine zqrB 8 hl fun _ hl => ?_; refine zqrI 9 hl fun _ hl => ?_; refine zqrI 10 hl fun _ hl => ?_; exact Eq.mpr (Bfb ..) hl,
  fun f h hl => by
    refine zqrI 1 hl fun _ hl => ?_; refine zqrS 7 hl fun _ _ hl => ?_; refine zqrI 9 hl fun _ hl => ?_; exact Eq.mpr (Bfa ..) hl,
  trivial⟩) rfl hg
theorem Be8 (J : J36) : zqe c k q36 u36 (f36 J) d36 Tryz.f36 .root f h = Am5 c k J (f 0) (f 1) h := by kernel_rfl
theorem w36 (hc : zqco c) {n : Nat} {a : List AV} (hg : f36 (r36 c k n) 0 (Ac a) h) : zqs 36 a h k :=
 zqw hc q36 Tryz.func36 rfl (by kernel_rfl) (by kernel_rfl) k u36 (fun n => f36 (r36 c k n)) (fun L _ _ hl => match L, hl with
  | 0, hl => hl
  | _ + 1, hl => hl) (fun n => ⟨
  fun f h hl => Eq.mpr (Be8 ..) hl,
  trivial⟩) rfl hg
theorem Be6 (J : J46) (l_0 c_0 : Nat) (l_1 c_1 : Nat) : zqe c k q46 u46 (f46 J) d46 Tryz.f46 .root (Ag (Ag f 0 (.str l_0 c_0)) 1 (.str l_1 c_1)) h = Am4 c k J l_0 c_0 l_1 c_1 h := by kernel_rfl
theorem Be5 (J : J46) (l_0 c_0 : Nat) (l_1 c_1 : Nat) (b_10 : Bool) (n_11 : Int) : zqe c k q46 u46 (f46 J) d46 Tryz.f46 (.l (.r (.l (.r (.r (.r (.r (.r (.r .root))))))))) (Ag (Ag (Ag (Ag f 0 (.str l_0 c_0)) 1 (.str l_1 c_1)) 10 (.bool b_10)) 11 (.int .i64 n_11)) h = Wr c k J l_0 c_0 l_1 c_1 (f 6) (f 7) (f 8) (f 9) b_10 n_11 h := by kernel_rfl
theorem Be4 (J : J46) (l_0 c_0 : Nat) (l_1 c_1 : Nat) (n_15 : Int) : zqe c k q46 u46 (f46 J) d46 Tryz.f46 (.r (.r (.r (.r (.r (.r (.r (.r (.l (.r (.l (.l (.r (.l (.r (.r (.r (.r (.r (.r .root)))))))))))))))))))) (Ag (Ag (Ag f 0 (.str l_0 c_0)) 1 (.str l_1 c_1)) 15 (.int .i64 n_15)) h = Am3 c k J l_0 c_0 l_1 c_1 (f 6) (f 7) (f 8) (f 9) n_15 h := by kernel_rfl
theorem Be3 (J : J46) : zqe c k q46 u46 (f46 J) d46 Tryz.f46 (.r (.r (.r (.r (.r (.r (.r (.r .root)))))))) f h = Am2 c k J (f 7) (f 8) h := by kernel_rfl
theorem Be2 (J : J46) (l_1 c_1 : Nat) : zqe c k q46 u46 (f46 J) d46 Tryz.f46 (.r (.l (.r (.l (.l (.r (.l (.r (.r (.r (.l (.r (.l (.l (.r (.l (.r (.r (.r (.r (.r (.r .root)))))))))))))))))))))) (Ag f 1 (.str l_1 c_1)) h = A0p c k J l_1 c_1 (f 7) (f 8) (f 9) h := by kernel_rfl
theorem Be1 (J : J46) (l_0 c_0 : Nat) (l_1 c_1 : Nat) (b_10 : Bool) (n_11 n_14 n_15 : Int) (b_16 : Bool) : zqe c k q46 u46 (f46 J) d46 Tryz.f46 (.r (.r (.r (.r (.r (.l (.r (.l (.l (.r (.l (.r (.r (.r (.r (.r (.r .root))))))))))))))))) (Ag (Ag (Ag (Ag (Ag (Ag (Ag f 0 (.str l_0 c_0)) 1 (.str l_1 c_1)) 10 (.bool b_10)) 11 (.int .i64 n_11)) 14 (.int .i64 n_14)) 15 (.int .i64 n_15)) 16 (.bool b_16)) h = Am1 c k J l_0 c_0 l_1 c_1 (f 6) (f 7) (f 8) (f 9) b_10 n_11 n_14 n_15 b_16 h := by kernel_rfl
theorem w46 (hc : zqco c) {n : Nat} {a : List AV} (hg : f46 (r46 c k n) 0 (Ac a) h) : zqs 46 a h k :=
 zqw hc q46 Tryz.func46 rfl (by kernel_rfl) (by kernel_rfl) k u46 (fun n => f46 (r46 c k n)) (fun L _ _ hl => match L, hl with
  | 0, hl => zqnS hl fun _ _ hl => zqnS hl fun _ _ hl => hl
  | 1, hl => zqnS hl fun _ _ hl => zqnS hl fun _ _ hl => zqnB hl fun _ hl => zqnI hl fun _ hl => hl
  | 2, hl => zqnS hl fun _ _ hl => zqnS hl fun _ _ hl => zqnI hl fun _ hl => hl
  | 3, hl => hl
  | 4, hl => zqnS hl fun _ _ hl => hl
  | 5, hl => zqnS hl fun _ _ hl => zqnS hl fun _ _ hl => zqnB hl fun _ hl => zqnI hl fun _ hl => zqnI hl fun _ hl => zqnI hl fun _ hl => zqnB hl fun _ hl => hl
  | _ + 6, hl => hl) (fun n => ⟨
  fun f h hl => by
    refine zqrS 0 hl fun _ _ hl => ?_; refine zqrS 1 hl fun _ _ hl => ?_; exact Eq.mpr (Be6 ..) hl,
  fun f h hl => by
    refine zqrS 0 hl fun _ _ hl => ?_; refine zqrS 1 hl fun _ _ hl => ?_; refine zqrB 10 hl fun _ hl => ?_; refine zqrI 11 hl fun _ hl => ?_; exact Eq.mpr (Be5 ..) hl,
  fun f h hl => by
    refine zqrS 0 hl fun _ _ hl => ?_; refine zqrS 1 hl fun _ _ hl => ?_; refine zqrI 15 hl fun _ hl => ?_; exact Eq.mpr (Be4 ..) hl,
  fun f h hl => Eq.mpr (Be3 ..) hl,
  fun f h hl => by
    refine zqrS 1 hl fun _ _ hl => ?_; exact Eq.mpr (Be2 ..) hl,
  fun f h hl => by
    refine zqrS 0 hl fun _ _ hl => ?_; refine zqrS 1 hl fun _ _ hl => ?_; refine zqrB 10 hl fun _ hl => ?_; refine zqrI 11 hl fun _ hl => ?_; refine zqrI 14 hl fun _ hl => ?_; refine zqrI 15 hl fun _ hl => ?_; refine zqrB 16 hl fun _ hl => ?_; exact Eq.mpr (Be1 ..) hl,
  trivial⟩) rfl hg
theorem Bet (J : J62) (l_0 c_0 : Nat) : zqe c k q62 u62 (f62 J) d62 Tryz.f62 .root (Ag f 0 (.str l_0 c_0)) h = Amw c k J l_0 c_0 h := by kernel_rfl
theorem w62 (hc : zqco c) {n : Nat} {a : List AV} (hg : f62 (r62 c k n) 0 (Ac a) h) : zqs 62 a h k :=
 zqw hc q62 Tryz.func62 rfl (by kernel_rfl) (by kernel_rfl) k u62 (fun n => f62 (r62 c k n)) (fun L _ _ hl => match L, hl with
  | 0, hl => zqnS hl fun _ _ hl => hl
  | _ + 1, hl => hl) (fun n => ⟨
  fun f h hl => by
    refine zqrS 0 hl fun _ _ hl => ?_; exact Eq.mpr (Bet ..) hl,
  trivial⟩) rfl hg
theorem Bes (J : J63) : zqe c k q63 u63 (f63 J) d63 Tryz.f63 .root f h = Ahg c k J (f 0) h := by kernel_rfl
theorem w63 (hc : zqco c) {n : Nat} {a : List AV} (hg : f63 (r63 c k n) 0 (Ac a) h) : zqs 63 a h k :=
 zqw hc q63 Tryz.func63 rfl (by kernel_rfl) (by kernel_rfl) k u63 (fun n => f63 (r63 c k n)) (fun L _ _ hl => match L, hl with
  | 0, hl => hl
  | _ + 1, hl => hl) (fun n => ⟨
  fun f h hl => Eq.mpr (Bes ..) hl,
  trivial⟩) rfl hg
theorem w76 (hc : zqco c) {m : Nat} {a : List AV} (hg : Kt env c q76 u76 d76 (Hq env Tryz.f76.results.toList k) m 0 (Ac a) h) : zqs 76 a h k := Kw mixed Jy hc q76 Tryz.func76 rfl (by kernel_rfl) (by kernel_rfl) (by kernel_rfl) (by simp [u76]) hg
theorem Beg (J : J78) (n_0 : Int) : zqe c k q78 u78 (f78 J) d78 Tryz.f78 .root (Ag f 0 (.int .u8 n_0)) h = Amk c k J n_0 h := by kernel_rfl
theorem w78 (hc : zqco c) {n : Nat} {a : List AV} (hg : f78 (r78 c k n) 0 (Ac a) h) : zqs 78 a h k :=
 zqw hc q78 Tryz.func78 rfl (by kernel_rfl) (by kernel_rfl) k u78 (fun n => f78 (r78 c k n)) (fun L _ _ hl => match L, hl with
  | 0, hl => zqnI hl fun _ hl => hl
  | _ + 1, hl => hl) (fun n => ⟨
  fun f h hl => by
    refine zqrI 0 hl fun _ hl => ?_; exact Eq.mpr (Beg ..) hl,
  trivial⟩) rfl hg
theorem Bef (J : J79) (n_1 : Int) : zqe c k q79 u79 (f79 J) d79 Tryz.f79 .root (Ag f 1 (.int .i64 n_1)) h = Ahf c k J (f 0) n_1 h := by kernel_rfl
theorem Bee (J : J79) (n_6 : Int) : zqe c k q79 u79 (f79 J) d79 Tryz.f79 (.l (.l (.r (.l (.r (.l (.r (.r .root)))))))) (Ag f 6 (.int .i64 n_6)) h = Amj c k J (f 0) n_6 h := by kernel_rfl
theorem Bed (J : J79) (n_7 : Int) : zqe c k q79 u79 (f79 J) d79 Tryz.f79 (.l (.r (.l (.r (.r (.r (.r .root))))))) (Ag f 7 (.int .i64 n_7)) h = Ami c k J (f 0) n_7 h := by kernel_rfl
theorem w79 (hc : zqco c) {n : Nat} {a : List AV} (hg : f79 (r79 c k n) 0 (Ac a) h) : zqs 79 a h k :=
 zqw hc q79 Tryz.func79 rfl (by kernel_rfl) (by kernel_rfl) k u79 (fun n => f79 (r79 c k n)) (fun L _ _ hl => match L, hl with
  | 0, hl => zqnI hl fun _ hl => hl
  | 1, hl => zqnI hl fun _ hl => hl
  | 2, hl => zqnI hl fun _ hl => hl
  | _ + 3, hl => hl) (fun n => ⟨
  fun f h hl => by
    refine zqrI 1 hl fun _ hl => ?_; exact Eq.mpr (Bef ..) hl,
  fun f h hl => by
    refine zqrI 6 hl fun _ hl => ?_; exact Eq.mpr (Bee ..) hl,
  fun f h hl => by
    refine zqrI 7 hl fun _ hl => ?_; exact Eq.mpr (Bed ..) hl,
  trivial⟩) rfl hg
theorem A7o (J : Axi) (l_0 c_0 : Nat) : zqe c k Bce Ba8 (f111 J) d111 Tryz.f111 .root (Ag f 0 (.str l_0 c_0)) h = Ae6 c k J l_0 c_0 h := by kernel_rfl
theorem Bab (hc : zqco c) {n : Nat} {a : List AV} (hg : f111 (Asn c k n) 0 (Ac a) h) : zqs 111 a h k :=
 zqw hc Bce Tryz.func111 rfl (by kernel_rfl) (by kernel_rfl) k Ba8 (fun n => f111 (Asn c k n)) (fun L _ _ hl => match L, hl with
  | 0, hl => zqnS hl fun _ _ hl => hl
  | _ + 1, hl => hl) (fun n => ⟨
  fun f h hl => by
    refine zqrS 0 hl fun _ _ hl => ?_; exact Eq.mpr (A7o ..) hl,
  trivial⟩) rfl hg
theorem A7m (J : Al8) (l_0 c_0 : Nat) : zqe c k A3c A2l (f113 J) d113 Tryz.f113 .root (Ag f 0 (.str l_0 c_0)) h = Ae4 c k J l_0 c_0 h := by kernel_rfl
theorem A7l (J : Al8) (l_0 c_0 : Nat) (b_2 : Bool) : zqe c k A3c A2l (f113 J) d113 Tryz.f113 (.r (.r .root)) (Ag (Ag f 0 (.str l_0 c_0)) 2 (.bool b_2)) h = Ae3 c k J l_0 c_0 b_2 h := by kernel_rfl
theorem A99 (hc : zqco c) {n : Nat} {a : List AV} (hg : f113 (Ahu c k n) 0 (Ac a) h) : zqs 113 a h k :=
 zqw hc A3c Tryz.func113 rfl (by kernel_rfl) (by kernel_rfl) k A2l (fun n => f113 (Ahu c k n)) (fun L _ _ hl => match L, hl with
  | 0, hl => zqnS hl fun _ _ hl => hl
  | 1, hl => zqnS hl fun _ _ hl => zqnB hl fun _ hl => hl
  | _ + 2, hl => hl) (fun n => ⟨
  fun f h hl => by
    refine zqrS 0 hl fun _ _ hl => ?_; exact Eq.mpr (A7m ..) hl,
  fun f h hl => by
    refine zqrS 0 hl fun _ _ hl => ?_; refine zqrB 2 hl fun _ hl => ?_; exact Eq.mpr (A7l ..) hl,
  trivial⟩) rfl hg
theorem A7j (J : Axf) (l_0 c_0 : Nat) (l_1 c_1 : Nat) : zqe c k Bcb Ba5 (f115 J) d115 Tryz.f115 .root (Ag (Ag f 0 (.str l_0 c_0)) 1 (.str l_1 c_1)) h = Akd c k J l_0 c_0 l_1 c_1 h := by kernel_rfl
theorem A97 (hc : zqco c) {n : Nat} {a : List AV} (hg : f115 (Asj c k n) 0 (Ac a) h) : zqs 115 a h k :=
 zqw hc Bcb Tryz.func115 rfl (by kernel_rfl) (by kernel_rfl) k Ba5 (fun n => f115 (Asj c k n)) (fun L _ _ hl => match L, hl with
  | 0, hl => zqnS hl fun _ _ hl => zqnS hl fun _ _ hl => hl
  | _ + 1, hl => hl) (fun n => ⟨
  fun f h hl => by
    refine zqrS 0 hl fun _ _ hl => ?_; refine zqrS 1 hl fun _ _ hl => ?_; exact Eq.mpr (A7j ..) hl,
  trivial⟩) rfl hg
theorem A7h (J : Axd) (l_0 c_0 : Nat) (n_1 n_2 : Int) : zqe c k Bb9 Ba3 (f117 J) d117 Tryz.f117 .root (Ag (Ag (Ag f 0 (.str l_0 c_0)) 1 (.int .i64 n_1)) 2 (.int .i64 n_2)) h = Ae0 c k J l_0 c_0 n_1 n_2 h := by kernel_rfl
theorem A95 (hc : zqco c) {n : Nat} {a : List AV} (hg : f117 (Ash c k n) 0 (Ac a) h) : zqs 117 a h k :=
 zqw hc Bb9 Tryz.func117 rfl (by kernel_rfl) (by kernel_rfl) k Ba3 (fun n => f117 (Ash c k n)) (fun L _ _ hl => match L, hl with
  | 0, hl => zqnS hl fun _ _ hl => zqnI hl fun _ hl => zqnI hl fun _ hl => hl
  | _ + 1, hl => hl) (fun n => ⟨
  fun f h hl => by
    refine zqrS 0 hl fun _ _ hl => ?_; refine zqrI 1 hl fun _ hl => ?_; refine zqrI 2 hl fun _ hl => ?_; exact Eq.mpr (A7h ..) hl,
  trivial⟩) rfl hg
theorem A7g (J : Al7) (l_0 c_0 : Nat) (l_1 c_1 : Nat) : zqe c k A3b A2k (f118 J) d118 Tryz.f118 .root (Ag (Ag f 0 (.str l_0 c_0)) 1 (.str l_1 c_1)) h = Aez c k J l_0 c_0 l_1 c_1 h := by kernel_rfl
theorem A7f (J : Al7) (l_0 c_0 : Nat) (l_6 c_6 : Nat) : zqe c k A3b A2k (f118 J) d118 Tryz.f118 (.r (.r (.r (.r .root)))) (Ag (Ag f 0 (.str l_0 c_0)) 6 (.str l_6 c_6)) h = Aey c k J l_0 c_0 l_6 c_6 h := by kernel_rfl
theorem A94 (hc : zqco c) {n : Nat} {a : List AV} (hg : f118 (Abe c k n) 0 (Ac a) h) : zqs 118 a h k :=
 zqw hc A3b Tryz.func118 rfl (by kernel_rfl) (by kernel_rfl) k A2k (fun n => f118 (Abe c k n)) (fun L _ _ hl => match L, hl with
  | 0, hl => zqnS hl fun _ _ hl => zqnS hl fun _ _ hl => hl
  | 1, hl => zqnS hl fun _ _ hl => zqnS hl fun _ _ hl => hl
  | _ + 2, hl => hl) (fun n => ⟨
  fun f h hl => by
    refine zqrS 0 hl fun _ _ hl => ?_; refine zqrS 1 hl fun _ _ hl => ?_; exact Eq.mpr (A7g ..) hl,
  fun f h hl => by
    refine zqrS 0 hl fun _ _ hl => ?_; refine zqrS 6 hl fun _ _ hl => ?_; exact Eq.mpr (A7f ..) hl,
  trivial⟩) rfl hg
theorem A7d (J : Axb) : zqe c k Bb7 Ba1 (f120 J) d120 Tryz.f120 .root f h = Aew c k J (f 0) h := by kernel_rfl
theorem A92 (hc : zqco c) {n : Nat} {a : List AV} (hg : f120 (Asf c k n) 0 (Ac a) h) : zqs 120 a h k :=
 zqw hc Bb7 Tryz.func120 rfl (by kernel_rfl) (by kernel_rfl) k Ba1 (fun n => f120 (Asf c k n)) (fun L _ _ hl => match L, hl with
  | 0, hl => hl
  | _ + 1, hl => hl) (fun n => ⟨
  fun f h hl => Eq.mpr (A7d ..) hl,
  trivial⟩) rfl hg
theorem Bik (hc : zqco c) {m : Nat} {a : List AV} (hg : Kt env c A3a A2j d124 (Hq env Tryz.f124.results.toList k) m 0 (Ac a) h) : zqs 124 a h k := Kw mixed Jy hc A3a Tryz.func124 rfl (by kernel_rfl) (by kernel_rfl) (by kernel_rfl) (by simp [A2j]) hg
theorem A65 (J : Aw9) (n_1 : Int) : zqe c k Bb5 Baz (f129 J) d129 Tryz.f129 .root (Ag f 1 (.int .i64 n_1)) h = Aeq c k J (f 0) n_1 h := by kernel_rfl
theorem A9y (hc : zqco c) {n : Nat} {a : List AV} (hg : f129 (Asd c k n) 0 (Ac a) h) : zqs 129 a h k :=
 zqw hc Bb5 Tryz.func129 rfl (by kernel_rfl) (by kernel_rfl) k Baz (fun n => f129 (Asd c k n)) (fun L _ _ hl => match L, hl with
  | 0, hl => zqnI hl fun _ hl => hl
  | _ + 1, hl => hl) (fun n => ⟨
  fun f h hl => by
    refine zqrI 1 hl fun _ hl => ?_; exact Eq.mpr (A65 ..) hl,
  trivial⟩) rfl hg
theorem A63 (J : Agy) (n_1 : Int) : zqe c k Ayg Axu (f131 J) d131 Tryz.f131 .root (Ag f 1 (.int .i64 n_1)) h = Aeo c k J (f 0) n_1 h := by kernel_rfl
theorem A62 (J : Agy) (n_5 n_6 : Int) : zqe c k Ayg Axu (f131 J) d131 Tryz.f131 (.l (.r (.l (.r (.r .root))))) (Ag (Ag f 5 (.int .u8 n_5)) 6 (.int .i64 n_6)) h = Aen c k J (f 0) n_5 n_6 h := by kernel_rfl
theorem A61 (J : Agy) (n_5 n_6 : Int) : zqe c k Ayg Axu (f131 J) d131 Tryz.f131 (.r (.r (.l (.l (.r (.l (.r (.r .root)))))))) (Ag (Ag f 5 (.int .u8 n_5)) 6 (.int .i64 n_6)) h = Yy c k J (f 0) n_5 n_6 h := by kernel_rfl
theorem A9w (hc : zqco c) {n : Nat} {a : List AV} (hg : f131 (Zi c k n) 0 (Ac a) h) : zqs 131 a h k :=
 zqw hc Ayg Tryz.func131 rfl (by kernel_rfl) (by kernel_rfl) k Axu (fun n => f131 (Zi c k n)) (fun L _ _ hl => match L, hl with
  | 0, hl => zqnI hl fun _ hl => hl
  | 1, hl => zqnI hl fun _ hl => zqnI hl fun _ hl => hl
  | 2, hl => zqnI hl fun _ hl => zqnI hl fun _ hl => hl
  | _ + 3, hl => hl) (fun n => ⟨
  fun f h hl => by
    refine zqrI 1 hl fun _ hl => ?_; exact Eq.mpr (A63 ..) hl,
  fun f h hl => by
    refine zqrI 5 hl fun _ hl => ?_; refine zqrI 6 hl fun _ hl => ?_; exact Eq.mpr (A62 ..) hl,
  fun f h hl => by
    refine zqrI 5 hl fun _ hl => ?_; refine zqrI 6 hl fun _ hl => ?_; exact Eq.mpr (A61 ..) hl,
  trivial⟩) rfl hg
theorem A60 (J : Aw7) (n_0 : Int) : zqe c k Bb3 Bax (f132 J) d132 Tryz.f132 .root (Ag f 0 (.int .u8 n_0)) h = Aem c k J n_0 h := by kernel_rfl
theorem A9v (hc : zqco c) {n : Nat} {a : List AV} (hg : f132 (Asb c k n) 0 (Ac a) h) : zqs 132 a h k :=
 zqw hc Bb3 Tryz.func132 rfl (by kernel_rfl) (by kernel_rfl) k Bax (fun n => f132 (Asb c k n)) (fun L _ _ hl => match L, hl with
  | 0, hl => zqnI hl fun _ hl => hl
  | _ + 1, hl => hl) (fun n => ⟨
  fun f h hl => by
    refine zqrI 0 hl fun _ hl => ?_; exact Eq.mpr (A60 ..) hl,
  trivial⟩) rfl hg
theorem A6z (J : Aw6) (n_0 : Int) : zqe c k Bb2 Baw (f133 J) d133 Tryz.f133 .root (Ag f 0 (.int .u8 n_0)) h = Ael c k J n_0 h := by kernel_rfl
theorem A9u (hc : zqco c) {n : Nat} {a : List AV} (hg : f133 (Asa c k n) 0 (Ac a) h) : zqs 133 a h k :=
 zqw hc Bb2 Tryz.func133 rfl (by kernel_rfl) (by kernel_rfl) k Baw (fun n => f133 (Asa c k n)) (fun L _ _ hl => match L, hl with
  | 0, hl => zqnI hl fun _ hl => hl
  | _ + 1, hl => hl) (fun n => ⟨
  fun f h hl => by
    refine zqrI 0 hl fun _ hl => ?_; exact Eq.mpr (A6z ..) hl,
  trivial⟩) rfl hg
theorem A6w (J : Agx) (n_1 : Int) : zqe c k Ayf Axt (f135 J) d135 Tryz.f135 .root (Ag f 1 (.int .i64 n_1)) h = Aei c k J (f 0) n_1 h := by kernel_rfl
theorem A6v (J : Agx) (n_1 n_6 : Int) : zqe c k Ayf Axt (f135 J) d135 Tryz.f135 (.l (.r (.l (.r (.r .root))))) (Ag (Ag f 1 (.int .i64 n_1)) 6 (.int .i64 n_6)) h = Aeh c k J (f 0) n_1 (f 5) n_6 h := by kernel_rfl
theorem A6u (J : Agx) (n_1 n_6 n_7 : Int) : zqe c k Ayf Axt (f135 J) d135 Tryz.f135 (.l (.l (.r (.l (.l (.r (.l (.l (.r (.l (.r (.r .root)))))))))))) (Ag (Ag (Ag f 1 (.int .i64 n_1)) 6 (.int .i64 n_6)) 7 (.int .i64 n_7)) h = Aeg c k J (f 0) n_1 (f 5) n_6 n_7 h := by kernel_rfl
theorem A9s (hc : zqco c) {n : Nat} {a : List AV} (hg : f135 (Zh c k n) 0 (Ac a) h) : zqs 135 a h k :=
 zqw hc Ayf Tryz.func135 rfl (by kernel_rfl) (by kernel_rfl) k Axt (fun n => f135 (Zh c k n)) (fun L _ _ hl => match L, hl with
  | 0, hl => zqnI hl fun _ hl => hl
  | 1, hl => zqnI hl fun _ hl => zqnI hl fun _ hl => hl
  | 2, hl => zqnI hl fun _ hl => zqnI hl fun _ hl => zqnI hl fun _ hl => hl
  | _ + 3, hl => hl) (fun n => ⟨
  fun f h hl => by
    refine zqrI 1 hl fun _ hl => ?_; exact Eq.mpr (A6w ..) hl,
  fun f h hl => by
    refine zqrI 1 hl fun _ hl => ?_; refine zqrI 6 hl fun _ hl => ?_; exact Eq.mpr (A6v ..) hl,
  fun f h hl => by
    refine zqrI 1 hl fun _ hl => ?_; refine zqrI 6 hl fun _ hl => ?_; refine zqrI 7 hl fun _ hl => ?_; exact Eq.mpr (A6u ..) hl,
  trivial⟩) rfl hg
theorem A6t (J : Aw5) (l_1 c_1 : Nat) : zqe c k Bb1 Bav (f136 J) d136 Tryz.f136 .root (Ag f 1 (.str l_1 c_1)) h = Aef c k J (f 0) l_1 c_1 h := by kernel_rfl
theorem A9r (hc : zqco c) {n : Nat} {a : List AV} (hg : f136 (Ar9 c k n) 0 (Ac a) h) : zqs 136 a h k :=
 zqw hc Bb1 Tryz.func136 rfl (by kernel_rfl) (by kernel_rfl) k Bav (fun n => f136 (Ar9 c k n)) (fun L _ _ hl => match L, hl with
  | 0, hl => zqnS hl fun _ _ hl => hl
  | _ + 1, hl => hl) (fun n => ⟨
  fun f h hl => by
    refine zqrS 1 hl fun _ _ hl => ?_; exact Eq.mpr (A6t ..) hl,
  trivial⟩) rfl hg
theorem A6s (J : Aw4) (l_0 c_0 : Nat) (n_1 : Int) : zqe c k Bb0 Bau (f160 J) d160 Tryz.f160 .root (Ag (Ag f 0 (.str l_0 c_0)) 1 (.int .u8 n_1)) h = Aee c k J l_0 c_0 n_1 h := by kernel_rfl
theorem A9q (hc : zqco c) {n : Nat} {a : List AV} (hg : f160 (Ar8 c k n) 0 (Ac a) h) : zqs 160 a h k :=
 zqw hc Bb0 Tryz.func160 rfl (by kernel_rfl) (by kernel_rfl) k Bau (fun n => f160 (Ar8 c k n)) (fun L _ _ hl => match L, hl with
  | 0, hl => zqnS hl fun _ _ hl => zqnI hl fun _ hl => hl
  | _ + 1, hl => hl) (fun n => ⟨
  fun f h hl => by
    refine zqrS 0 hl fun _ _ hl => ?_; refine zqrI 1 hl fun _ hl => ?_; exact Eq.mpr (A6s ..) hl,
  trivial⟩) rfl hg
theorem A6l (J : Aw3) (l_0 c_0 : Nat) (n_1 : Int) : zqe c k Bbz Bat (f162 J) d162 Tryz.f162 .root (Ag (Ag f 0 (.str l_0 c_0)) 1 (.int .i32 n_1)) h = Ad8 c k J l_0 c_0 n_1 h := by kernel_rfl
theorem A9o (hc : zqco c) {n : Nat} {a : List AV} (hg : f162 (Ar7 c k n) 0 (Ac a) h) : zqs 162 a h k :=
 zqw hc Bbz Tryz.func162 rfl (by kernel_rfl) (by kernel_rfl) k Bat (fun n => f162 (Ar7 c k n)) (fun L _ _ hl => match L, hl with
  | 0, hl => zqnS hl fun _ _ hl => zqnI hl fun _ hl => hl
  | 1, hl => hl
  | 2, hl => hl
  | 3, hl => hl
  | 4, hl => hl
  | 5, hl => hl
  | 6, hl => hl
  | 7, hl => hl
  | 8, hl => hl
  | 9, hl => hl
  | 10, hl => hl
  | 11, hl => hl
  | 12, hl => hl
  | 13, hl => hl
  | 14, hl => hl
  | 15, hl => hl
  | 16, hl => hl
  | 17, hl => hl
  | 18, hl => hl
  | 19, hl => hl
  | 20, hl => hl
  | 21, hl => hl
  | 22, hl => hl
  | _ + 23, hl => hl) (fun n => ⟨
  fun f h hl => by
    refine zqrS 0 hl fun _ _ hl => ?_; refine zqrI 1 hl fun _ hl => ?_; exact Eq.mpr (A6l ..) hl,
  fun _ _ hl => False.elim hl,
  fun _ _ hl => False.elim hl,
  fun _ _ hl => False.elim hl,
  fun _ _ hl => False.elim hl,
  fun _ _ hl => False.elim hl,
  fun _ _ hl => False.elim hl,
  fun _ _ hl => False.elim hl,
  fun _ _ hl => False.elim hl,
  fun _ _ hl => False.elim hl,
  fun _ _ hl => False.elim hl,
  fun _ _ hl => False.elim hl,
  fun _ _ hl => False.elim hl,
  fun _ _ hl => False.elim hl,
  fun _ _ hl => False.elim hl,
  fun _ _ hl => False.elim hl,
  fun _ _ hl => False.elim hl,
  fun _ _ hl => False.elim hl,
  fun _ _ hl => False.elim hl,
  fun _ _ hl => False.elim hl,
  fun _ _ hl => False.elim hl,
  fun _ _ hl => False.elim hl,
  fun _ _ hl => False.elim hl,
  trivial⟩) rfl hg
theorem A6k (J : Aw2) (l_0 c_0 : Nat) (l_1 c_1 : Nat) : zqe c k Bby Bas (f163 J) d163 Tryz.f163 .root (Ag (Ag f 0 (.str l_0 c_0)) 1 (.str l_1 c_1)) h = Ad7 c k J l_0 c_0 l_1 c_1 h := by kernel_rfl
theorem A9n (hc : zqco c) {n : Nat} {a : List AV} (hg : f163 (Ar6 c k n) 0 (Ac a) h) : zqs 163 a h k :=
 zqw hc Bby Tryz.func163 rfl (by kernel_rfl) (by kernel_rfl) k Bas (fun n => f163 (Ar6 c k n)) (fun L _ _ hl => match L, hl with
  | 0, hl => zqnS hl fun _ _ hl => zqnS hl fun _ _ hl => hl
  | _ + 1, hl => hl) (fun n => ⟨
  fun f h hl => by
    refine zqrS 0 hl fun _ _ hl => ?_; refine zqrS 1 hl fun _ _ hl => ?_; exact Eq.mpr (A6k ..) hl,
  trivial⟩) rfl hg
theorem Bij (hc : zqco c) {m : Nat} {a : List AV} (hg : Kt env c A28 A2h d165 (Hq env Tryz.f165.results.toList k) m 0 (Ac a) h) : zqs 165 a h k := Kw mixed Jy hc A28 Tryz.func165 rfl (by kernel_rfl) (by kernel_rfl) (by kernel_rfl) (by simp [A2h]) hg
theorem A6i (J : Al5) (l_0 c_0 : Nat) : zqe c k A26 A2f (f169 J) d169 Tryz.f169 .root (Ag f 0 (.str l_0 c_0)) h = Ad5 c k J l_0 c_0 (f 1) h := by kernel_rfl
theorem A6h (J : Al5) (l_0 c_0 : Nat) : zqe c k A26 A2f (f169 J) d169 Tryz.f169 (.l (.l (.r .root))) (Ag f 0 (.str l_0 c_0)) h = Ad4 c k J l_0 c_0 (f 1) h := by kernel_rfl
theorem A9l (hc : zqco c) {n : Nat} {a : List AV} (hg : f169 (Ahs c k n) 0 (Ac a) h) : zqs 169 a h k :=
 zqw hc A26 Tryz.func169 rfl (by kernel_rfl) (by kernel_rfl) k A2f (fun n => f169 (Ahs c k n)) (fun L _ _ hl => match L, hl with
  | 0, hl => zqnS hl fun _ _ hl => hl
  | 1, hl => zqnS hl fun _ _ hl => hl
  | _ + 2, hl => hl) (fun n => ⟨
  fun f h hl => by
    refine zqrS 0 hl fun _ _ hl => ?_; exact Eq.mpr (A6i ..) hl,
  fun f h hl => by
    refine zqrS 0 hl fun _ _ hl => ?_; exact Eq.mpr (A6h ..) hl,
  trivial⟩) rfl hg
theorem A6f (J : Awz) (l_0 c_0 : Nat) (l_1 c_1 : Nat) : zqe c k Bbv Bap (f172 J) d172 Tryz.f172 .root (Ag (Ag f 0 (.str l_0 c_0)) 1 (.str l_1 c_1)) h = Ad2 c k J l_0 c_0 l_1 c_1 h := by kernel_rfl
theorem A9j (hc : zqco c) {n : Nat} {a : List AV} (hg : f172 (Ar3 c k n) 0 (Ac a) h) : zqs 172 a h k :=
 zqw hc Bbv Tryz.func172 rfl (by kernel_rfl) (by kernel_rfl) k Bap (fun n => f172 (Ar3 c k n)) (fun L _ _ hl => match L, hl with
  | 0, hl => zqnS hl fun _ _ hl => zqnS hl fun _ _ hl => hl
  | _ + 1, hl => hl) (fun n => ⟨
  fun f h hl => by
    refine zqrS 0 hl fun _ _ hl => ?_; refine zqrS 1 hl fun _ _ hl => ?_; exact Eq.mpr (A6f ..) hl,
  trivial⟩) rfl hg
theorem Bih (hc : zqco c) {m : Nat} {a : List AV} (hg : Kt env c A25 A2e d176 (Hq env Tryz.f176.results.toList k) m 0 (Ac a) h) : zqs 176 a h k := Kw mixed Jy hc A25 Tryz.func176 rfl (by kernel_rfl) (by kernel_rfl) (by kernel_rfl) (by simp [A2e]) hg
theorem e178_0 (J : J178) (b_1 : Bool) : zqe c k q178 u178 (f178 J) d178 Tryz.f178 .root (Ag f 1 (.bool b_1)) h = s178_0 c k J (f 0) b_1 h := by kernel_rfl
theorem w178 (hc : zqco c) {n : Nat} {a : List AV} (hg : f178 (Bi1 c k n) 0 (Ac a) h) : zqs 178 a h k :=
 zqw hc q178 Tryz.func178 rfl (by kernel_rfl) (by kernel_rfl) k u178 (fun n => f178 (Bi1 c k n)) (fun L _ _ hl => match L, hl with
  | 0, hl => zqnB hl fun _ hl => hl
  | _ + 1, hl => hl) (fun n => ⟨
  fun f h hl => by
    refine zqrB 1 hl fun _ hl => ?_; exact Eq.mpr (e178_0 ..) hl,
  trivial⟩) rfl hg
theorem Bmd (hc : zqco c) {n : Nat} {a : List AV} (hg : f178 (Bi1 c k n) 0 (Ac a) h) : zqsd 178 a h k :=
 zqwd hc q178 Tryz.func178 rfl (by kernel_rfl) (by kernel_rfl) k u178 (fun n => f178 (Bi1 c k n)) (fun L _ _ hl => match L, hl with
  | 0, hl => zqnB hl fun _ hl => hl
  | _ + 1, hl => hl) (fun n => ⟨
  fun f h hl => by
    refine zqrB 1 hl fun _ hl => ?_; exact Eq.mpr (e178_0 ..) hl,
  trivial⟩) rfl hg
theorem A56 (J : Awy) : zqe c k Bbu Bao (f182 J) d182 Tryz.f182 .root f h = Adt c k J  h := by kernel_rfl
theorem A9g (hc : zqco c) {n : Nat} {a : List AV} (hg : f182 (Ar2 c k n) 0 (Ac a) h) : zqs 182 a h k :=
 zqw hc Bbu Tryz.func182 rfl (by kernel_rfl) (by kernel_rfl) k Bao (fun n => f182 (Ar2 c k n)) (fun L _ _ hl => match L, hl with
  | 0, hl => hl
  | _ + 1, hl => hl) (fun n => ⟨
  fun f h hl => Eq.mpr (A56 ..) hl,
  trivial⟩) rfl hg
theorem A54 (J : Al3) (n_1 : Int) : zqe c k A23 A2c (f208 J) d208 Tryz.f208 .root (Ag f 1 (.int .i64 n_1)) h = Adr c k J (f 0) n_1 h := by kernel_rfl
theorem A53 (J : Al3) (n_1 : Int) : zqe c k A23 A2c (f208 J) d208 Tryz.f208 (.r (.r .root)) (Ag f 1 (.int .i64 n_1)) h = Adq c k J (f 0) n_1 h := by kernel_rfl
theorem A9e (hc : zqco c) {n : Nat} {a : List AV} (hg : f208 (Aki c k n) 0 (Ac a) h) : zqs 208 a h k :=
 zqw hc A23 Tryz.func208 rfl (by kernel_rfl) (by kernel_rfl) k A2c (fun n => f208 (Aki c k n)) (fun L _ _ hl => match L, hl with
  | 0, hl => zqnI hl fun _ hl => hl
  | 1, hl => zqnI hl fun _ hl => hl
  | _ + 2, hl => hl) (fun n => ⟨
  fun f h hl => by
    refine zqrI 1 hl fun _ hl => ?_; exact Eq.mpr (A54 ..) hl,
  fun f h hl => by
    refine zqrI 1 hl fun _ hl => ?_; exact Eq.mpr (A53 ..) hl,
  trivial⟩) rfl hg
theorem A52 (J : Aww) (n_1 : Int) : zqe c k Bbs Bam (f215 J) d215 Tryz.f215 .root (Ag f 1 (.int .u8 n_1)) h = Adp c k J (f 0) n_1 h := by kernel_rfl
theorem A9d (hc : zqco c) {n : Nat} {a : List AV} (hg : f215 (Ar0 c k n) 0 (Ac a) h) : zqs 215 a h k :=
 zqw hc Bbs Tryz.func215 rfl (by kernel_rfl) (by kernel_rfl) k Bam (fun n => f215 (Ar0 c k n)) (fun L _ _ hl => match L, hl with
  | 0, hl => zqnI hl fun _ hl => hl
  | _ + 1, hl => hl) (fun n => ⟨
  fun f h hl => by
    refine zqrI 1 hl fun _ hl => ?_; exact Eq.mpr (A52 ..) hl,
  trivial⟩) rfl hg
theorem Bif (hc : zqco c) {m : Nat} {a : List AV} (hg : Kt env c A20 A19 d227 (Hq env Tryz.f227.results.toList k) m 0 (Ac a) h) : zqs 227 a h k := Kw mixed Jy hc A20 Tryz.func227 rfl (by kernel_rfl) (by kernel_rfl) (by kernel_rfl) (by simp [A19]) hg
theorem Bid (hc : zqco c) {m : Nat} {a : List AV} (hg : Kt env c A2y A17 d230 (Hq env Tryz.f230.results.toList k) m 0 (Ac a) h) : zqs 230 a h k := Kw mixed Jy hc A2y Tryz.func230 rfl (by kernel_rfl) (by kernel_rfl) (by kernel_rfl) (by simp [A17]) hg
theorem A5x (J : Awt) (n_1 : Int) : zqe c k Bbp Baj (f258 J) d258 Tryz.f258 .root (Ag f 1 (.int .i64 n_1)) h = Adl c k J (f 0) n_1 h := by kernel_rfl
theorem A89 (hc : zqco c) {n : Nat} {a : List AV} (hg : f258 (Arx c k n) 0 (Ac a) h) : zqs 258 a h k :=
 zqw hc Bbp Tryz.func258 rfl (by kernel_rfl) (by kernel_rfl) k Baj (fun n => f258 (Arx c k n)) (fun L _ _ hl => match L, hl with
  | 0, hl => zqnI hl fun _ hl => hl
  | _ + 1, hl => hl) (fun n => ⟨
  fun f h hl => by
    refine zqrI 1 hl fun _ hl => ?_; exact Eq.mpr (A5x ..) hl,
  trivial⟩) rfl hg
theorem A5w (J : Aws) (l_0 c_0 : Nat) : zqe c k Bbo Bai (f265 J) d265 Tryz.f265 .root (Ag f 0 (.str l_0 c_0)) h = Adk c k J l_0 c_0 h := by kernel_rfl
theorem A88 (hc : zqco c) {n : Nat} {a : List AV} (hg : f265 (Arw c k n) 0 (Ac a) h) : zqs 265 a h k :=
 zqw hc Bbo Tryz.func265 rfl (by kernel_rfl) (by kernel_rfl) k Bai (fun n => f265 (Arw c k n)) (fun L _ _ hl => match L, hl with
  | 0, hl => zqnS hl fun _ _ hl => hl
  | _ + 1, hl => hl) (fun n => ⟨
  fun f h hl => by
    refine zqrS 0 hl fun _ _ hl => ?_; exact Eq.mpr (A5w ..) hl,
  trivial⟩) rfl hg
theorem A5v (J : Qn) (l_1 c_1 : Nat) : zqe c k Ahv Ag8 (f374 J) d374 Tryz.f374 .root (Ag f 1 (.str l_1 c_1)) h = Adj c k J (f 0) l_1 c_1 h := by kernel_rfl
theorem A5u (J : Qn) (l_1 c_1 : Nat) (n_5 : Int) (b_6 : Bool) (n_31 n_32 : Int) : zqe c k Ahv Ag8 (f374 J) d374 Tryz.f374 (.l (.r (.l (.r (.l (.r (.r (.r .root)))))))) (Ag (Ag (Ag (Ag (Ag f 1 (.str l_1 c_1)) 5 (.int .i64 n_5)) 6 (.bool b_6)) 31 (.int .i64 n_31)) 32 (.int .i64 n_32)) h = Yv c k J (f 0) l_1 c_1 n_5 b_6 (f 30) n_31 n_32 h := by kernel_rfl
theorem A5t (J : Qn) (l_1 c_1 : Nat) (n_5 : Int) (b_6 : Bool) (n_10 : Int) : zqe c k Ahv Ag8 (f374 J) d374 Tryz.f374 (.l (.r (.r (.r (.l (.r (.r (.r .root)))))))) (Ag (Ag (Ag (Ag f 1 (.str l_1 c_1)) 5 (.int .i64 n_5)) 6 (.bool b_6)) 10 (.int .i64 n_10)) h = Adi c k J (f 0) l_1 c_1 n_5 b_6 n_10 h := by kernel_rfl
theorem A5s (J : Qn) (l_1 c_1 : Nat) (n_5 : Int) (b_6 : Bool) (n_10 : Int) : zqe c k Ahv Ag8 (f374 J) d374 Tryz.f374 (.r (.r (.l (.l (.r (.r (.r (.l (.r (.r (.r .root))))))))))) (Ag (Ag (Ag (Ag f 1 (.str l_1 c_1)) 5 (.int .i64 n_5)) 6 (.bool b_6)) 10 (.int .i64 n_10)) h = Yu c k J (f 0) l_1 c_1 n_5 b_6 n_10 h := by kernel_rfl
theorem A5r (J : Qn) (l_1 c_1 : Nat) (n_13 n_14 : Int) : zqe c k Ahv Ag8 (f374 J) d374 Tryz.f374 (.l (.r (.l (.r (.r (.r (.r (.r (.r (.r .root)))))))))) (Ag (Ag (Ag f 1 (.str l_1 c_1)) 13 (.int .i64 n_13)) 14 (.int .i64 n_14)) h = Adh c k J (f 0) l_1 c_1 (f 12) n_13 n_14 h := by kernel_rfl
theorem A5q (J : Qn) (l_1 c_1 : Nat) (n_13 n_14 : Int) : zqe c k Ahv Ag8 (f374 J) d374 Tryz.f374 (.r (.r (.l (.l (.r (.l (.r (.r (.r (.r (.r (.r (.r .root))))))))))))) (Ag (Ag (Ag f 1 (.str l_1 c_1)) 13 (.int .i64 n_13)) 14 (.int .i64 n_14)) h = Adg c k J (f 0) l_1 c_1 (f 12) n_13 n_14 h := by kernel_rfl
theorem A5p (J : Qn) (l_1 c_1 : Nat) (n_5 : Int) (b_6 : Bool) : zqe c k Ahv Ag8 (f374 J) d374 Tryz.f374 (.r (.r (.r (.r .root)))) (Ag (Ag (Ag f 1 (.str l_1 c_1)) 5 (.int .i64 n_5)) 6 (.bool b_6)) h = Adf c k J (f 0) l_1 c_1 n_5 b_6 h := by kernel_rfl
theorem A87 (hc : zqco c) {n : Nat} {a : List AV} (hg : f374 (Ka c k n) 0 (Ac a) h) : zqs 374 a h k :=
 zqw hc Ahv Tryz.func374 rfl (by kernel_rfl) (by kernel_rfl) k Ag8 (fun n => f374 (Ka c k n)) (fun L _ _ hl => match L, hl with
  | 0, hl => zqnS hl fun _ _ hl => hl
  | 1, hl => zqnS hl fun _ _ hl => zqnI hl fun _ hl => zqnB hl fun _ hl => zqnI hl fun _ hl => zqnI hl fun _ hl => hl
  | 2, hl => zqnS hl fun _ _ hl => zqnI hl fun _ hl => zqnB hl fun _ hl => zqnI hl fun _ hl => hl
  | 3, hl => zqnS hl fun _ _ hl => zqnI hl fun _ hl => zqnB hl fun _ hl => zqnI hl fun _ hl => hl
  | 4, hl => zqnS hl fun _ _ hl => zqnI hl fun _ hl => zqnI hl fun _ hl => hl
  | 5, hl => zqnS hl fun _ _ hl => zqnI hl fun _ hl => zqnI hl fun _ hl => hl
  | 6, hl => zqnS hl fun _ _ hl => zqnI hl fun _ hl => zqnB hl fun _ hl => hl
  | _ + 7, hl => hl) (fun n => ⟨
  fun f h hl => by
    refine zqrS 1 hl fun _ _ hl => ?_; exact Eq.mpr (A5v ..) hl,
  fun f h hl => by
    refine zqrS 1 hl fun _ _ hl => ?_; refine zqrI 5 hl fun _ hl => ?_; refine zqrB 6 hl fun _ hl => ?_; refine zqrI 31 hl fun _ hl => ?_; refine zqrI 32 hl fun _ hl => ?_; exact Eq.mpr (A5u ..) hl,
  fun f h hl => by
    refine zqrS 1 hl fun _ _ hl => ?_; refine zqrI 5 hl fun _ hl => ?_; refine zqrB 6 hl fun _ hl => ?_; refine zqrI 10 hl fun _ hl => ?_; exact Eq.mpr (A5t ..) hl,
  fun f h hl => by
    refine zqrS 1 hl fun _ _ hl => ?_; refine zqrI 5 hl fun _ hl => ?_; refine zqrB 6 hl fun _ hl => ?_; refine zqrI 10 hl fun _ hl => ?_; exact Eq.mpr (A5s ..) hl,
  fun f h hl => by
    refine zqrS 1 hl fun _ _ hl => ?_; refine zqrI 13 hl fun _ hl => ?_; refine zqrI 14 hl fun _ hl => ?_; exact Eq.mpr (A5r ..) hl,
  fun f h hl => by
    refine zqrS 1 hl fun _ _ hl => ?_; refine zqrI 13 hl fun _ hl => ?_; refine zqrI 14 hl fun _ hl => ?_; exact Eq.mpr (A5q ..) hl,
  fun f h hl => by
    refine zqrS 1 hl fun _ _ hl => ?_; refine zqrI 5 hl fun _ hl => ?_; refine zqrB 6 hl fun _ hl => ?_; exact Eq.mpr (A5p ..) hl,
  trivial⟩) rfl hg
theorem A5o (J : Awr) (l_0 c_0 : Nat) (l_1 c_1 : Nat) : zqe c k Bbn Bah (f376 J) d376 Tryz.f376 .root (Ag (Ag f 0 (.str l_0 c_0)) 1 (.str l_1 c_1)) h = Ade c k J l_0 c_0 l_1 c_1 h := by kernel_rfl
theorem A86 (hc : zqco c) {n : Nat} {a : List AV} (hg : f376 (Arv c k n) 0 (Ac a) h) : zqs 376 a h k :=
 zqw hc Bbn Tryz.func376 rfl (by kernel_rfl) (by kernel_rfl) k Bah (fun n => f376 (Arv c k n)) (fun L _ _ hl => match L, hl with
  | 0, hl => zqnS hl fun _ _ hl => zqnS hl fun _ _ hl => hl
  | 1, hl => hl
  | _ + 2, hl => hl) (fun n => ⟨
  fun f h hl => by
    refine zqrS 0 hl fun _ _ hl => ?_; refine zqrS 1 hl fun _ _ hl => ?_; exact Eq.mpr (A5o ..) hl,
  fun _ _ hl => False.elim hl,
  trivial⟩) rfl hg
end Go.Den
