/-
 Proof.
-/
import Derived.Test.YtcnmehbkpaoolaaGreatDoorRunA1
import Derived.KernelRfl
namespace Go.Den
open Go.Proofs
set_option maxRecDepth 100000
variable {c : CF} {k : KV} {f : FT} {h : H}
theorem Bmg (J : J7) : zqe c k q7 u7 (f7 J) d7 Tryz.f7 .root f h = Ayj c k J (f 0) h := by kernel_rfl
theorem Bmf (J : J7) (l_5 c_5 : Nat) (n_7 n_8 : Int) : zqe c k q7 u7 (f7 J) d7 Tryz.f7 (.l (.r (.l (.r (.r (.r (.r (.r (.r (.r .root)))))))))) (Ag (Ag (Ag f 5 (.str l_5 c_5)) 7 (.int .i64 n_7)) 8 (.int .i64 n_8)) h = Ayi c k J (f 0) (f 3) (f 4) l_5 c_5 (f 6) n_7 n_8 h := by kernel_rfl
theorem Bme (J : J7) (l_5 c_5 : Nat) (n_7 n_8 : Int) : zqe c k q7 u7 (f7 J) d7 Tryz.f7 (.r (.r (.l (.l (.r (.l (.r (.r (.r (.r (.r (.r (.r .root))))))))))))) (Ag (Ag (Ag f 5 (.str l_5 c_5)) 7 (.int .i64 n_7)) 8 (.int .i64 n_8)) h = Ayh c k J (f 0) (f 3) (f 4) l_5 c_5 (f 6) n_7 n_8 h := by kernel_rfl
theorem Bmd (J : J7) (n_12 : Int) : zqe c k q7 u7 (f7 J) d7 Tryz.f7 (.l (.r (.l (.r (.r (.r (.r (.r (.r (.r (.r (.r (.r .root))))))))))))) (Ag f 12 (.int .i64 n_12)) h = Ayg c k J (f 6) (f 10) (f 11) n_12 h := by kernel_rfl
theorem Bmc (J : J7) (n_13 : Int) : zqe c k q7 u7 (f7 J) d7 Tryz.f7 (.l (.r (.l (.r (.r (.r (.r (.r (.r (.r (.r (.r (.r (.r .root)))))))))))))) (Ag f 13 (.int .i64 n_13)) h = Ayf c k J (f 11) n_13 h := by kernel_rfl
theorem w7 (hc : Ci c) {n : Nat} {a : List AV} (hg : f7 (r7 c k n) 0 (Ac a) h) : zqs 7 a h k :=
 zqw hc q7 Tryz.func7 rfl (by kernel_rfl) (by kernel_rfl) k u7 (fun n => f7 (r7 c k n)) (fun L _ _ hl => match L, hl with
  | 0, hl => hl
  | 1, hl => Bv hl fun _ _ hl => Bh hl fun _ hl => Bh hl fun _ hl => hl
  | 2, hl => Bv hl fun _ _ hl => Bh hl fun _ hl => Bh hl fun _ hl => hl
  | 3, hl => Bh hl fun _ hl => hl
  | 4, hl => Bh hl fun _ hl => hl
  | _ + 5, hl => hl) (fun n => ⟨
  fun f h hl => Eq.mpr (Bmg ..) hl,
  fun f h hl => by
    refine Bu 5 hl fun _ _ hl => ?_; refine Bg 7 hl fun _ hl => ?_; refine Bg 8 hl fun _ hl => ?_; exact Eq.mpr (Bmf ..) hl,
  fun f h hl => by
    refine Bu 5 hl fun _ _ hl => ?_; refine Bg 7 hl fun _ hl => ?_; refine Bg 8 hl fun _ hl => ?_; exact Eq.mpr (Bme ..) hl,
  fun f h hl => by
    refine Bg 12 hl fun _ hl => ?_; exact Eq.mpr (Bmd ..) hl,
  fun f h hl => by
    refine Bg 13 hl fun _ hl => ?_; exact Eq.mpr (Bmc ..) hl,
  trivial⟩) rfl hg
theorem w15 (hc : Ci c) {m : Nat} {a : List AV} (hg : Il env c q15 u15 d15 (Gs env Tryz.f15.results.toList k) m 0 (Ac a) h) : zqs 15 a h k := Jh mixed Ju hc q15 Tryz.func15 rfl (by kernel_rfl) (by kernel_rfl) (by kernel_rfl) (by simp [u15]) hg
theorem w20 (hc : Ci c) {m : Nat} {a : List AV} (hg : Il env c q20 u20 d20 (Gs env Tryz.f20.results.toList k) m 0 (Ac a) h) : zqs 20 a h k := Jh mixed Ju hc q20 Tryz.func20 rfl (by kernel_rfl) (by kernel_rfl) (by kernel_rfl) (by simp [u20]) hg
theorem Bf3 (J : J23) (n_0 n_1 : Int) : zqe c k q23 u23 (f23 J) d23 Tryz.f23 .root (Ag (Ag f 0 (.int .i64 n_0)) 1 (.int .i64 n_1)) h = Anr c k J n_0 n_1 h := by kernel_rfl
theorem w23 (hc : Ci c) {n : Nat} {a : List AV} (hg : f23 (r23 c k n) 0 (Ac a) h) : zqs 23 a h k :=
 zqw hc q23 Tryz.func23 rfl (by kernel_rfl) (by kernel_rfl) k u23 (fun n => f23 (r23 c k n)) (fun L _ _ hl => match L, hl with
  | 0, hl => Bh hl fun _ hl => Bh hl fun _ hl => hl
  | _ + 1, hl => hl) (fun n => ⟨
  fun f h hl => by
    refine Bg 0 hl fun _ hl => ?_; refine Bg 1 hl fun _ hl => ?_; exact Eq.mpr (Bf3 ..) hl,
  trivial⟩) rfl hg
theorem Bfx (J : J35) : zqe c k q35 u35 (f35 J) d35 Tryz.f35 .root f h = Anl c k J (f 0) (f 1) h := by kernel_rfl
theorem w35 (hc : Ci c) {n : Nat} {a : List AV} (hg : f35 (r35 c k n) 0 (Ac a) h) : zqs 35 a h k :=
 zqw hc q35 Tryz.func35 rfl (by kernel_rfl) (by kernel_rfl) k u35 (fun n => f35 (r35 c k n)) (fun L _ _ hl => match L, hl with
  | 0, hl => hl
  | _ + 1, hl => hl) (fun n => ⟨
  fun f h hl => Eq.mpr (Bfx ..) hl,
  trivial⟩) rfl hg
theorem Bfk (J : J60) (l_0 c_0 : Nat) : zqe c k q60 u60 (f60 J) d60 Tryz.f60 .root (Ag f 0 (.str l_0 c_0)) h = Anb c k J l_0 c_0 h := by kernel_rfl
theorem Bfj (J : J60) (l_0 c_0 : Nat) (n_9 n_10 : Int) : zqe c k q60 u60 (f60 J) d60 Tryz.f60 (.l (.r (.l (.r .root)))) (Ag (Ag (Ag f 0 (.str l_0 c_0)) 9 (.int .i64 n_9)) 10 (.int .i64 n_10)) h = Ana c k J l_0 c_0 (f 8) n_9 n_10 h := by kernel_rfl
theorem w60 (hc : Ci c) {n : Nat} {a : List AV} (hg : f60 (r60 c k n) 0 (Ac a) h) : zqs 60 a h k :=
 zqw hc q60 Tryz.func60 rfl (by kernel_rfl) (by kernel_rfl) k u60 (fun n => f60 (r60 c k n)) (fun L _ _ hl => match L, hl with
  | 0, hl => Bv hl fun _ _ hl => hl
  | 1, hl => Bv hl fun _ _ hl => Bh hl fun _ hl => Bh hl fun _ hl => hl
  | _ + 2, hl => hl) (fun n => ⟨
  fun f h hl => by
    refine Bu 0 hl fun _ _ hl => ?_; exact Eq.mpr (Bfk ..) hl,
  fun f h hl => by
    refine Bu 0 hl fun _ _ hl => ?_; refine Bg 9 hl fun _ hl => ?_; refine Bg 10 hl fun _ hl => ?_; exact Eq.mpr (Bfj ..) hl,
  trivial⟩) rfl hg
theorem Bfi (J : J61) (l_1 c_1 : Nat) : zqe c k q61 u61 (f61 J) d61 Tryz.f61 .root (Ag f 1 (.str l_1 c_1)) h = Ahp c k J (f 0) l_1 c_1 h := by kernel_rfl
theorem w61 (hc : Ci c) {n : Nat} {a : List AV} (hg : f61 (r61 c k n) 0 (Ac a) h) : zqs 61 a h k :=
 zqw hc q61 Tryz.func61 rfl (by kernel_rfl) (by kernel_rfl) k u61 (fun n => f61 (r61 c k n)) (fun L _ _ hl => match L, hl with
  | 0, hl => Bv hl fun _ _ hl => hl
  | _ + 1, hl => hl) (fun n => ⟨
  fun f h hl => by
    refine Bu 1 hl fun _ _ hl => ?_; exact Eq.mpr (Bfi ..) hl,
  trivial⟩) rfl hg
theorem Bfh (J : J62) (l_0 c_0 : Nat) : zqe c k q62 u62 (f62 J) d62 Tryz.f62 .root (Ag f 0 (.str l_0 c_0)) h = Am9 c k J l_0 c_0 h := by kernel_rfl
theorem w62 (hc : Ci c) {n : Nat} {a : List AV} (hg : f62 (r62 c k n) 0 (Ac a) h) : zqs 62 a h k :=
 zqw hc q62 Tryz.func62 rfl (by kernel_rfl) (by kernel_rfl) k u62 (fun n => f62 (r62 c k n)) (fun L _ _ hl => match L, hl with
  | 0, hl => Bv hl fun _ _ hl => hl
  | _ + 1, hl => hl) (fun n => ⟨
  fun f h hl => by
    refine Bu 0 hl fun _ _ hl => ?_; exact Eq.mpr (Bfh ..) hl,
  trivial⟩) rfl hg
theorem Bfd (J : J65) (l_0 c_0 : Nat) : zqe c k q65 u65 (f65 J) d65 Tryz.f65 .root (Ag f 0 (.str l_0 c_0)) h = Am6 c k J l_0 c_0 h := by kernel_rfl
theorem Bfc (J : J65) (l_3 c_3 : Nat) (l_4 c_4 : Nat) (l_5 c_5 : Nat) (n_6 : Int) (b_7 : Bool) : zqe c k q65 u65 (f65 J) d65 Tryz.f65 (.r (.r (.r (.r (.r (.r (.r .root))))))) (Ag (Ag (Ag (Ag (Ag f 3 (.str l_3 c_3)) 4 (.str l_4 c_4)) 5 (.str l_5 c_5)) 6 (.int .i64 n_6)) 7 (.bool b_7)) h = Am5 c k J l_3 c_3 l_4 c_4 l_5 c_5 n_6 b_7 h := by kernel_rfl
theorem Bfb (J : J65) (l_3 c_3 : Nat) (l_4 c_4 : Nat) (l_5 c_5 : Nat) : zqe c k q65 u65 (f65 J) d65 Tryz.f65 (.r (.r (.r .root))) (Ag (Ag (Ag f 3 (.str l_3 c_3)) 4 (.str l_4 c_4)) 5 (.str l_5 c_5)) h = Am4 c k J l_3 c_3 l_4 c_4 l_5 c_5 h := by kernel_rfl
theorem w65 (hc : Ci c) {n : Nat} {a : List AV} (hg : f65 (r65 c k n) 0 (Ac a) h) : zqs 65 a h k :=
 zqw hc q65 Tryz.func65 rfl (by kernel_rfl) (by kernel_rfl) k u65 (fun n => f65 (r65 c k n)) (fun L _ _ hl => match L, hl with
  | 0, hl => Bv hl fun _ _ hl => hl
  | 1, hl => Bv hl fun _ _ hl => Bv hl fun _ _ hl => Bv hl fun _ _ hl => Bh hl fun _ hl => Jb hl fun _ hl => hl
  | 2, hl => Bv hl fun _ _ hl => Bv hl fun _ _ hl => Bv hl fun _ _ hl => hl
  | _ + 3, hl => hl) (fun n => ⟨
  fun f h hl => by
    refine Bu 0 hl fun _ _ hl => ?_; exact Eq.mpr (Bfd ..) hl,
  fun f h hl => by
    refine Bu 3 hl fun _ _ hl => ?_; refine Bu 4 hl fun _ _ hl => ?_; refine Bu 5 hl fun _ _ hl => ?_; refine Bg 6 hl fun _ hl => ?_; refine Ja 7 hl fun _ hl => ?_; exact Eq.mpr (Bfc ..) hl,
  fun f h hl => by
    refine Bu 3 hl fun _ _ hl => ?_; refine Bu 4 hl fun _ _ hl => ?_; refine Bu 5 hl fun _ _ hl => ?_; exact Eq.mpr (Bfb ..) hl,
  trivial⟩) rfl hg
theorem Bfa (J : J66) (l_0 c_0 : Nat) : zqe c k q66 u66 (f66 J) d66 Tryz.f66 .root (Ag f 0 (.str l_0 c_0)) h = Am3 c k J l_0 c_0 h := by kernel_rfl
theorem Be9 (J : J66) (l_4 c_4 : Nat) (l_6 c_6 : Nat) (n_9 n_52 n_53 : Int) : zqe c k q66 u66 (f66 J) d66 Tryz.f66 (.l (.r (.l (.r (.l (.r (.l (.r (.r (.r (.r (.r .root)))))))))))) (Ag (Ag (Ag (Ag (Ag f 4 (.str l_4 c_4)) 6 (.str l_6 c_6)) 9 (.int .u32 n_9)) 52 (.int .i64 n_52)) 53 (.int .i64 n_53)) h = Am2 c k J (f 2) l_4 c_4 l_6 c_6 n_9 n_52 n_53 h := by kernel_rfl
theorem Be8 (J : J66) (l_6 c_6 : Nat) (n_8 : Int) : zqe c k q66 u66 (f66 J) d66 Tryz.f66 (.r (.r (.r (.r (.r (.r .root)))))) (Ag (Ag f 6 (.str l_6 c_6)) 8 (.int .i64 n_8)) h = Am1 c k J (f 2) l_6 c_6 n_8 h := by kernel_rfl
theorem w66 (hc : Ci c) {n : Nat} {a : List AV} (hg : f66 (r66 c k n) 0 (Ac a) h) : zqs 66 a h k :=
 zqw hc q66 Tryz.func66 rfl (by kernel_rfl) (by kernel_rfl) k u66 (fun n => f66 (r66 c k n)) (fun L _ _ hl => match L, hl with
  | 0, hl => Bv hl fun _ _ hl => hl
  | 1, hl => Bv hl fun _ _ hl => Bv hl fun _ _ hl => Bh hl fun _ hl => Bh hl fun _ hl => Bh hl fun _ hl => hl
  | 2, hl => Bv hl fun _ _ hl => Bh hl fun _ hl => hl
  | _ + 3, hl => hl) (fun n => ⟨
  fun f h hl => by
    refine Bu 0 hl fun _ _ hl => ?_; exact Eq.mpr (Bfa ..) hl,
  fun f h hl => by
    refine Bu 4 hl fun _ _ hl => ?_; refine Bu 6 hl fun _ _ hl => ?_; refine Bg 9 hl fun _ hl => ?_; refine Bg 52 hl fun _ hl => ?_; refine Bg 53 hl fun _ hl => ?_; exact Eq.mpr (Be9 ..) hl,
  fun f h hl => by
    refine Bu 6 hl fun _ _ hl => ?_; refine Bg 8 hl fun _ hl => ?_; exact Eq.mpr (Be8 ..) hl,
  trivial⟩) rfl hg
theorem Be7 (J : J67) : zqe c k q67 u67 (f67 J) d67 Tryz.f67 .root f h = Am0 c k J (f 0) h := by kernel_rfl
theorem w67 (hc : Ci c) {n : Nat} {a : List AV} (hg : f67 (r67 c k n) 0 (Ac a) h) : zqs 67 a h k :=
 zqw hc q67 Tryz.func67 rfl (by kernel_rfl) (by kernel_rfl) k u67 (fun n => f67 (r67 c k n)) (fun L _ _ hl => match L, hl with
  | 0, hl => hl
  | _ + 1, hl => hl) (fun n => ⟨
  fun f h hl => Eq.mpr (Be7 ..) hl,
  trivial⟩) rfl hg
theorem Be6 (J : J74) : zqe c k q74 u74 (f74 J) d74 Tryz.f74 .root f h = Amz c k J (f 0) (f 1) h := by kernel_rfl
theorem w74 (hc : Ci c) {n : Nat} {a : List AV} (hg : f74 (r74 c k n) 0 (Ac a) h) : zqs 74 a h k :=
 zqw hc q74 Tryz.func74 rfl (by kernel_rfl) (by kernel_rfl) k u74 (fun n => f74 (r74 c k n)) (fun L _ _ hl => match L, hl with
  | 0, hl => hl
  | _ + 1, hl => hl) (fun n => ⟨
  fun f h hl => Eq.mpr (Be6 ..) hl,
  trivial⟩) rfl hg
theorem w76 (hc : Ci c) {m : Nat} {a : List AV} (hg : Il env c q76 u76 d76 (Gs env Tryz.f76.results.toList k) m 0 (Ac a) h) : zqs 76 a h k := Jh mixed Ju hc q76 Tryz.func76 rfl (by kernel_rfl) (by kernel_rfl) (by kernel_rfl) (by simp [u76]) hg
theorem Be3 (J : J79) (n_1 : Int) : zqe c k q79 u79 (f79 J) d79 Tryz.f79 .root (Ag f 1 (.int .i64 n_1)) h = Ahn c k J (f 0) n_1 h := by kernel_rfl
theorem Be2 (J : J79) (n_6 : Int) : zqe c k q79 u79 (f79 J) d79 Tryz.f79 (.l (.l (.r (.l (.r (.l (.r (.r .root)))))))) (Ag f 6 (.int .i64 n_6)) h = Amw c k J (f 0) n_6 h := by kernel_rfl
theorem Be1 (J : J79) (n_7 : Int) : zqe c k q79 u79 (f79 J) d79 Tryz.f79 (.l (.r (.l (.r (.r (.r (.r .root))))))) (Ag f 7 (.int .i64 n_7)) h = Amv c k J (f 0) n_7 h := by kernel_rfl
theorem w79 (hc : Ci c) {n : Nat} {a : List AV} (hg : f79 (r79 c k n) 0 (Ac a) h) : zqs 79 a h k :=
 zqw hc q79 Tryz.func79 rfl (by kernel_rfl) (by kernel_rfl) k u79 (fun n => f79 (r79 c k n)) (fun L _ _ hl => match L, hl with
  | 0, hl => Bh hl fun _ hl => hl
  | 1, hl => Bh hl fun _ hl => hl
  | 2, hl => Bh hl fun _ hl => hl
  | _ + 3, hl => hl) (fun n => ⟨
  fun f h hl => by
    refine Bg 1 hl fun _ hl => ?_; exact Eq.mpr (Be3 ..) hl,
  fun f h hl => by
    refine Bg 6 hl fun _ hl => ?_; exact Eq.mpr (Be2 ..) hl,
  fun f h hl => by
    refine Bg 7 hl fun _ hl => ?_; exact Eq.mpr (Be1 ..) hl,
  trivial⟩) rfl hg
theorem A8g (J : Axw) (n_1 : Int) : zqe c k Bdb Bby (f107 J) d107 Tryz.f107 .root (Ag f 1 (.int .u8 n_1)) h = Afl c k J (f 0) n_1 h := by kernel_rfl
theorem Ba1 (hc : Ci c) {n : Nat} {a : List AV} (hg : f107 (Asz c k n) 0 (Ac a) h) : zqs 107 a h k :=
 zqw hc Bdb Tryz.func107 rfl (by kernel_rfl) (by kernel_rfl) k Bby (fun n => f107 (Asz c k n)) (fun L _ _ hl => match L, hl with
  | 0, hl => Bh hl fun _ hl => hl
  | _ + 1, hl => hl) (fun n => ⟨
  fun f h hl => by
    refine Bg 1 hl fun _ hl => ?_; exact Eq.mpr (A8g ..) hl,
  trivial⟩) rfl hg
theorem A8f (J : Ag9) (l_0 c_0 : Nat) : zqe c k Ayx Ax7 (f108 J) d108 Tryz.f108 .root (Ag f 0 (.str l_0 c_0)) h = Afk c k J l_0 c_0 h := by kernel_rfl
theorem A8e (J : Ag9) (n_5 n_6 n_8 : Int) : zqe c k Ayx Ax7 (f108 J) d108 Tryz.f108 (.l (.r (.l (.r (.r (.r (.r (.r (.r (.r .root)))))))))) (Ag (Ag (Ag f 5 (.int .i64 n_5)) 6 (.int .i64 n_6)) 8 (.int .i64 n_8)) h = Afj c k J n_5 n_6 n_8 (f 38) h := by kernel_rfl
theorem A8d (J : Ag9) (l_0 c_0 : Nat) (n_5 n_6 n_7 : Int) : zqe c k Ayx Ax7 (f108 J) d108 Tryz.f108 (.r (.r (.r (.r (.r .root))))) (Ag (Ag (Ag (Ag f 0 (.str l_0 c_0)) 5 (.int .i64 n_5)) 6 (.int .i64 n_6)) 7 (.int .i64 n_7)) h = Afi c k J l_0 c_0 n_5 n_6 n_7 h := by kernel_rfl
theorem Ba0 (hc : Ci c) {n : Nat} {a : List AV} (hg : f108 (Zp c k n) 0 (Ac a) h) : zqs 108 a h k :=
 zqw hc Ayx Tryz.func108 rfl (by kernel_rfl) (by kernel_rfl) k Ax7 (fun n => f108 (Zp c k n)) (fun L _ _ hl => match L, hl with
  | 0, hl => Bv hl fun _ _ hl => hl
  | 1, hl => Bh hl fun _ hl => Bh hl fun _ hl => Bh hl fun _ hl => hl
  | 2, hl => Bv hl fun _ _ hl => Bh hl fun _ hl => Bh hl fun _ hl => Bh hl fun _ hl => hl
  | _ + 3, hl => hl) (fun n => ⟨
  fun f h hl => by
    refine Bu 0 hl fun _ _ hl => ?_; exact Eq.mpr (A8f ..) hl,
  fun f h hl => by
    refine Bg 5 hl fun _ hl => ?_; refine Bg 6 hl fun _ hl => ?_; refine Bg 8 hl fun _ hl => ?_; exact Eq.mpr (A8e ..) hl,
  fun f h hl => by
    refine Bu 0 hl fun _ _ hl => ?_; refine Bg 5 hl fun _ hl => ?_; refine Bg 6 hl fun _ hl => ?_; refine Bg 7 hl fun _ hl => ?_; exact Eq.mpr (A8d ..) hl,
  trivial⟩) rfl hg
theorem A8a (J : Axt) (l_0 c_0 : Nat) : zqe c k Bc8 Bbv (f111 J) d111 Tryz.f111 .root (Ag f 0 (.str l_0 c_0)) h = Aff c k J l_0 c_0 h := by kernel_rfl
theorem Bax (hc : Ci c) {n : Nat} {a : List AV} (hg : f111 (Asw c k n) 0 (Ac a) h) : zqs 111 a h k :=
 zqw hc Bc8 Tryz.func111 rfl (by kernel_rfl) (by kernel_rfl) k Bbv (fun n => f111 (Asw c k n)) (fun L _ _ hl => match L, hl with
  | 0, hl => Bv hl fun _ _ hl => hl
  | _ + 1, hl => hl) (fun n => ⟨
  fun f h hl => by
    refine Bu 0 hl fun _ _ hl => ?_; exact Eq.mpr (A8a ..) hl,
  trivial⟩) rfl hg
theorem A75 (J : Axq) (l_0 c_0 : Nat) (l_1 c_1 : Nat) : zqe c k Bc5 Bbs (f115 J) d115 Tryz.f115 .root (Ag (Ag f 0 (.str l_0 c_0)) 1 (.str l_1 c_1)) h = Ako c k J l_0 c_0 l_1 c_1 h := by kernel_rfl
theorem Bat (hc : Ci c) {n : Nat} {a : List AV} (hg : f115 (Ass c k n) 0 (Ac a) h) : zqs 115 a h k :=
 zqw hc Bc5 Tryz.func115 rfl (by kernel_rfl) (by kernel_rfl) k Bbs (fun n => f115 (Ass c k n)) (fun L _ _ hl => match L, hl with
  | 0, hl => Bv hl fun _ _ hl => Bv hl fun _ _ hl => hl
  | _ + 1, hl => hl) (fun n => ⟨
  fun f h hl => by
    refine Bu 0 hl fun _ _ hl => ?_; refine Bu 1 hl fun _ _ hl => ?_; exact Eq.mpr (A75 ..) hl,
  trivial⟩) rfl hg
theorem A73 (J : Axo) (l_0 c_0 : Nat) (n_1 n_2 : Int) : zqe c k Bc3 Bbq (f117 J) d117 Tryz.f117 .root (Ag (Ag (Ag f 0 (.str l_0 c_0)) 1 (.int .i64 n_1)) 2 (.int .i64 n_2)) h = Ae9 c k J l_0 c_0 n_1 n_2 h := by kernel_rfl
theorem Bar (hc : Ci c) {n : Nat} {a : List AV} (hg : f117 (Asq c k n) 0 (Ac a) h) : zqs 117 a h k :=
 zqw hc Bc3 Tryz.func117 rfl (by kernel_rfl) (by kernel_rfl) k Bbq (fun n => f117 (Asq c k n)) (fun L _ _ hl => match L, hl with
  | 0, hl => Bv hl fun _ _ hl => Bh hl fun _ hl => Bh hl fun _ hl => hl
  | _ + 1, hl => hl) (fun n => ⟨
  fun f h hl => by
    refine Bu 0 hl fun _ _ hl => ?_; refine Bg 1 hl fun _ hl => ?_; refine Bg 2 hl fun _ hl => ?_; exact Eq.mpr (A73 ..) hl,
  trivial⟩) rfl hg
theorem A72 (J : Amk) (l_0 c_0 : Nat) (l_1 c_1 : Nat) : zqe c k A3x A25 (f118 J) d118 Tryz.f118 .root (Ag (Ag f 0 (.str l_0 c_0)) 1 (.str l_1 c_1)) h = Ae8 c k J l_0 c_0 l_1 c_1 h := by kernel_rfl
theorem A71 (J : Amk) (l_0 c_0 : Nat) (l_6 c_6 : Nat) : zqe c k A3x A25 (f118 J) d118 Tryz.f118 (.r (.r (.r (.r .root)))) (Ag (Ag f 0 (.str l_0 c_0)) 6 (.str l_6 c_6)) h = Ae7 c k J l_0 c_0 l_6 c_6 h := by kernel_rfl
theorem Baq (hc : Ci c) {n : Nat} {a : List AV} (hg : f118 (Abk c k n) 0 (Ac a) h) : zqs 118 a h k :=
 zqw hc A3x Tryz.func118 rfl (by kernel_rfl) (by kernel_rfl) k A25 (fun n => f118 (Abk c k n)) (fun L _ _ hl => match L, hl with
  | 0, hl => Bv hl fun _ _ hl => Bv hl fun _ _ hl => hl
  | 1, hl => Bv hl fun _ _ hl => Bv hl fun _ _ hl => hl
  | _ + 2, hl => hl) (fun n => ⟨
  fun f h hl => by
    refine Bu 0 hl fun _ _ hl => ?_; refine Bu 1 hl fun _ _ hl => ?_; exact Eq.mpr (A72 ..) hl,
  fun f h hl => by
    refine Bu 0 hl fun _ _ hl => ?_; refine Bu 6 hl fun _ _ hl => ?_; exact Eq.mpr (A71 ..) hl,
  trivial⟩) rfl hg
theorem A70 (J : Axn) : zqe c k Bc2 Bbp (f119 J) d119 Tryz.f119 .root f h = Ae6 c k J (f 0) h := by kernel_rfl
theorem Bap (hc : Ci c) {n : Nat} {a : List AV} (hg : f119 (Asp c k n) 0 (Ac a) h) : zqs 119 a h k :=
 zqw hc Bc2 Tryz.func119 rfl (by kernel_rfl) (by kernel_rfl) k Bbp (fun n => f119 (Asp c k n)) (fun L _ _ hl => match L, hl with
  | 0, hl => hl
  | _ + 1, hl => hl) (fun n => ⟨
  fun f h hl => Eq.mpr (A70 ..) hl,
  trivial⟩) rfl hg
theorem A7y (J : Axl) : zqe c k Bc0 Bbn (f122 J) d122 Tryz.f122 .root f h = Ae4 c k J (f 0) h := by kernel_rfl
theorem Ban (hc : Ci c) {n : Nat} {a : List AV} (hg : f122 (Asn c k n) 0 (Ac a) h) : zqs 122 a h k :=
 zqw hc Bc0 Tryz.func122 rfl (by kernel_rfl) (by kernel_rfl) k Bbn (fun n => f122 (Asn c k n)) (fun L _ _ hl => match L, hl with
  | 0, hl => hl
  | _ + 1, hl => hl) (fun n => ⟨
  fun f h hl => Eq.mpr (A7y ..) hl,
  trivial⟩) rfl hg
theorem A7x (J : Ag8) : zqe c k Ayw Ax6 (f127 J) d127 Tryz.f127 .root f h = Ae3 c k J (f 0) h := by kernel_rfl
theorem A7w (J : Ag8) (n_4 : Int) : zqe c k Ayw Ax6 (f127 J) d127 Tryz.f127 (.l (.r (.l (.r (.r .root))))) (Ag f 4 (.int .i64 n_4)) h = Zg c k J (f 0) (f 3) n_4 h := by kernel_rfl
theorem A7v (J : Ag8) (n_4 : Int) : zqe c k Ayw Ax6 (f127 J) d127 Tryz.f127 (.r (.r (.l (.l (.r (.l (.r (.r .root)))))))) (Ag f 4 (.int .i64 n_4)) h = Zf c k J (f 0) (f 3) n_4 h := by kernel_rfl
theorem Bam (hc : Ci c) {n : Nat} {a : List AV} (hg : f127 (Zo c k n) 0 (Ac a) h) : zqs 127 a h k :=
 zqw hc Ayw Tryz.func127 rfl (by kernel_rfl) (by kernel_rfl) k Ax6 (fun n => f127 (Zo c k n)) (fun L _ _ hl => match L, hl with
  | 0, hl => hl
  | 1, hl => Bh hl fun _ hl => hl
  | 2, hl => Bh hl fun _ hl => hl
  | _ + 3, hl => hl) (fun n => ⟨
  fun f h hl => Eq.mpr (A7x ..) hl,
  fun f h hl => by
    refine Bg 4 hl fun _ hl => ?_; exact Eq.mpr (A7w ..) hl,
  fun f h hl => by
    refine Bg 4 hl fun _ hl => ?_; exact Eq.mpr (A7v ..) hl,
  trivial⟩) rfl hg
theorem A7q (J : Axj) (n_1 : Int) : zqe c k Bcy Bbl (f130 J) d130 Tryz.f130 .root (Ag f 1 (.int .i64 n_1)) h = Aey c k J (f 0) n_1 h := by kernel_rfl
theorem Baj (hc : Ci c) {n : Nat} {a : List AV} (hg : f130 (Asl c k n) 0 (Ac a) h) : zqs 130 a h k :=
 zqw hc Bcy Tryz.func130 rfl (by kernel_rfl) (by kernel_rfl) k Bbl (fun n => f130 (Asl c k n)) (fun L _ _ hl => match L, hl with
  | 0, hl => Bh hl fun _ hl => hl
  | _ + 1, hl => hl) (fun n => ⟨
  fun f h hl => by
    refine Bg 1 hl fun _ hl => ?_; exact Eq.mpr (A7q ..) hl,
  trivial⟩) rfl hg
theorem A7p (J : Ag6) (n_1 : Int) : zqe c k Ayu Ax4 (f131 J) d131 Tryz.f131 .root (Ag f 1 (.int .i64 n_1)) h = Aex c k J (f 0) n_1 h := by kernel_rfl
theorem A7o (J : Ag6) (n_5 n_6 : Int) : zqe c k Ayu Ax4 (f131 J) d131 Tryz.f131 (.l (.r (.l (.r (.r .root))))) (Ag (Ag f 5 (.int .u8 n_5)) 6 (.int .i64 n_6)) h = Aew c k J (f 0) n_5 n_6 h := by kernel_rfl
theorem A7n (J : Ag6) (n_5 n_6 : Int) : zqe c k Ayu Ax4 (f131 J) d131 Tryz.f131 (.r (.r (.l (.l (.r (.l (.r (.r .root)))))))) (Ag (Ag f 5 (.int .u8 n_5)) 6 (.int .i64 n_6)) h = Ze c k J (f 0) n_5 n_6 h := by kernel_rfl
theorem Bai (hc : Ci c) {n : Nat} {a : List AV} (hg : f131 (Zm c k n) 0 (Ac a) h) : zqs 131 a h k :=
 zqw hc Ayu Tryz.func131 rfl (by kernel_rfl) (by kernel_rfl) k Ax4 (fun n => f131 (Zm c k n)) (fun L _ _ hl => match L, hl with
  | 0, hl => Bh hl fun _ hl => hl
  | 1, hl => Bh hl fun _ hl => Bh hl fun _ hl => hl
  | 2, hl => Bh hl fun _ hl => Bh hl fun _ hl => hl
  | _ + 3, hl => hl) (fun n => ⟨
  fun f h hl => by
    refine Bg 1 hl fun _ hl => ?_; exact Eq.mpr (A7p ..) hl,
  fun f h hl => by
    refine Bg 5 hl fun _ hl => ?_; refine Bg 6 hl fun _ hl => ?_; exact Eq.mpr (A7o ..) hl,
  fun f h hl => by
    refine Bg 5 hl fun _ hl => ?_; refine Bg 6 hl fun _ hl => ?_; exact Eq.mpr (A7n ..) hl,
  trivial⟩) rfl hg
theorem A7m (J : Axi) (n_0 : Int) : zqe c k Bcx Bbk (f132 J) d132 Tryz.f132 .root (Ag f 0 (.int .u8 n_0)) h = Aev c k J n_0 h := by kernel_rfl
theorem Bah (hc : Ci c) {n : Nat} {a : List AV} (hg : f132 (Asj c k n) 0 (Ac a) h) : zqs 132 a h k :=
 zqw hc Bcx Tryz.func132 rfl (by kernel_rfl) (by kernel_rfl) k Bbk (fun n => f132 (Asj c k n)) (fun L _ _ hl => match L, hl with
  | 0, hl => Bh hl fun _ hl => hl
  | _ + 1, hl => hl) (fun n => ⟨
  fun f h hl => by
    refine Bg 0 hl fun _ hl => ?_; exact Eq.mpr (A7m ..) hl,
  trivial⟩) rfl hg
theorem A7k (J : Amj) (n_1 : Int) : zqe c k A3v A23 (f134 J) d134 Tryz.f134 .root (Ag f 1 (.int .i64 n_1)) h = Aet c k J (f 0) n_1 h := by kernel_rfl
theorem A7j (J : Amj) (n_5 : Int) : zqe c k A3v A23 (f134 J) d134 Tryz.f134 (.l (.r (.r (.r .root)))) (Ag f 5 (.int .i64 n_5)) h = Aes c k J (f 0) n_5 h := by kernel_rfl
theorem Baf (hc : Ci c) {n : Nat} {a : List AV} (hg : f134 (Ah2 c k n) 0 (Ac a) h) : zqs 134 a h k :=
 zqw hc A3v Tryz.func134 rfl (by kernel_rfl) (by kernel_rfl) k A23 (fun n => f134 (Ah2 c k n)) (fun L _ _ hl => match L, hl with
  | 0, hl => Bh hl fun _ hl => hl
  | 1, hl => Bh hl fun _ hl => hl
  | _ + 2, hl => hl) (fun n => ⟨
  fun f h hl => by
    refine Bg 1 hl fun _ hl => ?_; exact Eq.mpr (A7k ..) hl,
  fun f h hl => by
    refine Bg 5 hl fun _ hl => ?_; exact Eq.mpr (A7j ..) hl,
  trivial⟩) rfl hg
theorem A7f (J : Axg) (l_1 c_1 : Nat) : zqe c k Bcv Bbi (f136 J) d136 Tryz.f136 .root (Ag f 1 (.str l_1 c_1)) h = Aeo c k J (f 0) l_1 c_1 h := by kernel_rfl
theorem Bad (hc : Ci c) {n : Nat} {a : List AV} (hg : f136 (Ash c k n) 0 (Ac a) h) : zqs 136 a h k :=
 zqw hc Bcv Tryz.func136 rfl (by kernel_rfl) (by kernel_rfl) k Bbi (fun n => f136 (Ash c k n)) (fun L _ _ hl => match L, hl with
  | 0, hl => Bv hl fun _ _ hl => hl
  | _ + 1, hl => hl) (fun n => ⟨
  fun f h hl => by
    refine Bu 1 hl fun _ _ hl => ?_; exact Eq.mpr (A7f ..) hl,
  trivial⟩) rfl hg
theorem A7e (J : Axf) (l_0 c_0 : Nat) (n_1 : Int) : zqe c k Bcu Bbh (f160 J) d160 Tryz.f160 .root (Ag (Ag f 0 (.str l_0 c_0)) 1 (.int .u8 n_1)) h = Aen c k J l_0 c_0 n_1 h := by kernel_rfl
theorem Bac (hc : Ci c) {n : Nat} {a : List AV} (hg : f160 (Asg c k n) 0 (Ac a) h) : zqs 160 a h k :=
 zqw hc Bcu Tryz.func160 rfl (by kernel_rfl) (by kernel_rfl) k Bbh (fun n => f160 (Asg c k n)) (fun L _ _ hl => match L, hl with
  | 0, hl => Bv hl fun _ _ hl => Bh hl fun _ hl => hl
  | _ + 1, hl => hl) (fun n => ⟨
  fun f h hl => by
    refine Bu 0 hl fun _ _ hl => ?_; refine Bg 1 hl fun _ hl => ?_; exact Eq.mpr (A7e ..) hl,
  trivial⟩) rfl hg
theorem A7d (J : Tp) (l_0 c_0 : Nat) : zqe c k Aky Akd (f161 J) d161 Tryz.f161 .root (Ag f 0 (.str l_0 c_0)) h = Aem c k J l_0 c_0 h := by kernel_rfl
theorem A7c (J : Tp) (l_0 c_0 : Nat) (b_3 b_4 : Bool) (n_5 : Int) : zqe c k Aky Akd (f161 J) d161 Tryz.f161 (.l (.r (.l (.r (.r .root))))) (Ag (Ag (Ag (Ag f 0 (.str l_0 c_0)) 3 (.bool b_3)) 4 (.bool b_4)) 5 (.int .i64 n_5)) h = Ael c k J l_0 c_0 b_3 b_4 n_5 h := by kernel_rfl
theorem A7b (J : Tp) (l_0 c_0 : Nat) (n_8 n_9 : Int) : zqe c k Aky Akd (f161 J) d161 Tryz.f161 (.l (.r (.l (.r (.r (.r (.r (.l (.r (.l (.r (.r (.r .root))))))))))))) (Ag (Ag (Ag f 0 (.str l_0 c_0)) 8 (.int .i64 n_8)) 9 (.int .i64 n_9)) h = Aek c k J l_0 c_0 (f 7) n_8 n_9 h := by kernel_rfl
theorem A7a (J : Tp) (l_0 c_0 : Nat) (n_9 n_10 : Int) : zqe c k Aky Akd (f161 J) d161 Tryz.f161 (.r (.r (.l (.r (.r (.l (.l (.r (.l (.l (.r (.l (.r (.r (.r (.r (.l (.r (.l (.r (.r (.r .root)))))))))))))))))))))) (Ag (Ag (Ag f 0 (.str l_0 c_0)) 9 (.int .i64 n_9)) 10 (.int .u8 n_10)) h = Aej c k J l_0 c_0 (f 7) n_9 n_10 h := by kernel_rfl
theorem A69 (J : Tp) (l_0 c_0 : Nat) (n_8 n_9 : Int) : zqe c k Aky Akd (f161 J) d161 Tryz.f161 (.r (.r (.l (.l (.r (.l (.r (.r (.r (.r (.l (.r (.l (.r (.r (.r .root)))))))))))))))) (Ag (Ag (Ag f 0 (.str l_0 c_0)) 8 (.int .i64 n_8)) 9 (.int .i64 n_9)) h = Zd c k J l_0 c_0 (f 7) n_8 n_9 h := by kernel_rfl
theorem A68 (J : Tp) (l_0 c_0 : Nat) (b_3 b_4 : Bool) : zqe c k Aky Akd (f161 J) d161 Tryz.f161 (.r (.r (.r .root))) (Ag (Ag (Ag f 0 (.str l_0 c_0)) 3 (.bool b_3)) 4 (.bool b_4)) h = Aei c k J l_0 c_0 b_3 b_4 h := by kernel_rfl
theorem Bab (hc : Ci c) {n : Nat} {a : List AV} (hg : f161 (No c k n) 0 (Ac a) h) : zqs 161 a h k :=
 zqw hc Aky Tryz.func161 rfl (by kernel_rfl) (by kernel_rfl) k Akd (fun n => f161 (No c k n)) (fun L _ _ hl => match L, hl with
  | 0, hl => Bv hl fun _ _ hl => hl
  | 1, hl => Bv hl fun _ _ hl => Jb hl fun _ hl => Jb hl fun _ hl => Bh hl fun _ hl => hl
  | 2, hl => Bv hl fun _ _ hl => Bh hl fun _ hl => Bh hl fun _ hl => hl
  | 3, hl => Bv hl fun _ _ hl => Bh hl fun _ hl => Bh hl fun _ hl => hl
  | 4, hl => Bv hl fun _ _ hl => Bh hl fun _ hl => Bh hl fun _ hl => hl
  | 5, hl => Bv hl fun _ _ hl => Jb hl fun _ hl => Jb hl fun _ hl => hl
  | _ + 6, hl => hl) (fun n => ⟨
  fun f h hl => by
    refine Bu 0 hl fun _ _ hl => ?_; exact Eq.mpr (A7d ..) hl,
  fun f h hl => by
    refine Bu 0 hl fun _ _ hl => ?_; refine Ja 3 hl fun _ hl => ?_; refine Ja 4 hl fun _ hl => ?_; refine Bg 5 hl fun _ hl => ?_; exact Eq.mpr (A7c ..) hl,
  fun f h hl => by
    refine Bu 0 hl fun _ _ hl => ?_; refine Bg 8 hl fun _ hl => ?_; refine Bg 9 hl fun _ hl => ?_; exact Eq.mpr (A7b ..) hl,
  fun f h hl => by
    refine Bu 0 hl fun _ _ hl => ?_; refine Bg 9 hl fun _ hl => ?_; refine Bg 10 hl fun _ hl => ?_; exact Eq.mpr (A7a ..) hl,
  fun f h hl => by
    refine Bu 0 hl fun _ _ hl => ?_; refine Bg 8 hl fun _ hl => ?_; refine Bg 9 hl fun _ hl => ?_; exact Eq.mpr (A69 ..) hl,
  fun f h hl => by
    refine Bu 0 hl fun _ _ hl => ?_; refine Ja 3 hl fun _ hl => ?_; refine Ja 4 hl fun _ hl => ?_; exact Eq.mpr (A68 ..) hl,
  trivial⟩) rfl hg
theorem A66 (J : Axd) (l_0 c_0 : Nat) (l_1 c_1 : Nat) : zqe c k Bcs Bbf (f163 J) d163 Tryz.f163 .root (Ag (Ag f 0 (.str l_0 c_0)) 1 (.str l_1 c_1)) h = Aeg c k J l_0 c_0 l_1 c_1 h := by kernel_rfl
theorem A99 (hc : Ci c) {n : Nat} {a : List AV} (hg : f163 (Ase c k n) 0 (Ac a) h) : zqs 163 a h k :=
 zqw hc Bcs Tryz.func163 rfl (by kernel_rfl) (by kernel_rfl) k Bbf (fun n => f163 (Ase c k n)) (fun L _ _ hl => match L, hl with
  | 0, hl => Bv hl fun _ _ hl => Bv hl fun _ _ hl => hl
  | _ + 1, hl => hl) (fun n => ⟨
  fun f h hl => by
    refine Bu 0 hl fun _ _ hl => ?_; refine Bu 1 hl fun _ _ hl => ?_; exact Eq.mpr (A66 ..) hl,
  trivial⟩) rfl hg
theorem Bjb (hc : Ci c) {m : Nat} {a : List AV} (hg : Il env c A3u A22 d165 (Gs env Tryz.f165.results.toList k) m 0 (Ac a) h) : zqs 165 a h k := Jh mixed Ju hc A3u Tryz.func165 rfl (by kernel_rfl) (by kernel_rfl) (by kernel_rfl) (by simp [A22]) hg
theorem A61 (J : Axa) (l_0 c_0 : Nat) (l_1 c_1 : Nat) : zqe c k Bcp Bbc (f172 J) d172 Tryz.f172 .root (Ag (Ag f 0 (.str l_0 c_0)) 1 (.str l_1 c_1)) h = Aeb c k J l_0 c_0 l_1 c_1 h := by kernel_rfl
theorem A95 (hc : Ci c) {n : Nat} {a : List AV} (hg : f172 (Asb c k n) 0 (Ac a) h) : zqs 172 a h k :=
 zqw hc Bcp Tryz.func172 rfl (by kernel_rfl) (by kernel_rfl) k Bbc (fun n => f172 (Asb c k n)) (fun L _ _ hl => match L, hl with
  | 0, hl => Bv hl fun _ _ hl => Bv hl fun _ _ hl => hl
  | _ + 1, hl => hl) (fun n => ⟨
  fun f h hl => by
    refine Bu 0 hl fun _ _ hl => ?_; refine Bu 1 hl fun _ _ hl => ?_; exact Eq.mpr (A61 ..) hl,
  trivial⟩) rfl hg
theorem A60 (J : To) (l_0 c_0 : Nat) (n_1 n_2 : Int) : zqe c k Akx Akc (f173 J) d173 Tryz.f173 .root (Ag (Ag (Ag f 0 (.str l_0 c_0)) 1 (.int .i64 n_1)) 2 (.int .i64 n_2)) h = Aea c k J l_0 c_0 n_1 n_2 h := by kernel_rfl
theorem A6z (J : To) (n_1 : Int) (b_8 : Bool) (l_9 c_9 : Nat) (n_10 n_11 : Int) (b_12 : Bool) (n_13 n_100 n_101 : Int) : zqe c k Akx Akc (f173 J) d173 Tryz.f173 (.l (.r (.l (.r (.r (.r (.r (.r (.r (.r (.r (.r (.r (.r .root)))))))))))))) (Ag (Ag (Ag (Ag (Ag (Ag (Ag (Ag (Ag f 1 (.int .i64 n_1)) 8 (.bool b_8)) 9 (.str l_9 c_9)) 10 (.int .u64 n_10)) 11 (.int .u64 n_11)) 12 (.bool b_12)) 13 (.int .u64 n_13)) 100 (.int .i64 n_100)) 101 (.int .i64 n_101)) h = Ad9 c k J n_1 b_8 l_9 c_9 n_10 n_11 b_12 n_13 (f 99) n_100 n_101 h := by kernel_rfl
theorem A6y (J : To) (n_1 : Int) (b_8 : Bool) (l_9 c_9 : Nat) (n_10 n_11 : Int) (b_12 : Bool) (n_13 n_16 : Int) (n_100 n_101 : Int) : zqe c k Akx Akc (f173 J) d173 Tryz.f173 (.r (.r (.r (.l (.l (.r (.r (.l (.l (.r (.l (.r (.r (.r (.r (.r (.r (.r (.r (.r (.r (.r .root)))))))))))))))))))))) (Ag (Ag (Ag (Ag (Ag (Ag (Ag (Ag (Ag (Ag f 1 (.int .i64 n_1)) 8 (.bool b_8)) 9 (.str l_9 c_9)) 10 (.int .u64 n_10)) 11 (.int .u64 n_11)) 12 (.bool b_12)) 13 (.int .u64 n_13)) 16 (.int .u8 n_16)) 100 (.int .i64 n_100)) 101 (.int .i64 n_101)) h = Ad8 c k J n_1 b_8 l_9 c_9 n_10 n_11 b_12 n_13 n_16 (f 99) n_100 n_101 h := by kernel_rfl
theorem A6x (J : To) (l_0 c_0 : Nat) (n_1 n_2 : Int) (b_8 : Bool) (l_9 c_9 : Nat) (n_10 : Int) : zqe c k Akx Akc (f173 J) d173 Tryz.f173 (.r (.r (.r (.r (.r (.r (.r (.r .root)))))))) (Ag (Ag (Ag (Ag (Ag (Ag f 0 (.str l_0 c_0)) 1 (.int .i64 n_1)) 2 (.int .i64 n_2)) 8 (.bool b_8)) 9 (.str l_9 c_9)) 10 (.int .u64 n_10)) h = Ad7 c k J l_0 c_0 n_1 n_2 b_8 l_9 c_9 n_10 h := by kernel_rfl
theorem A6w (J : To) (l_0 c_0 : Nat) (n_1 n_2 : Int) (b_8 : Bool) (l_9 c_9 : Nat) : zqe c k Akx Akc (f173 J) d173 Tryz.f173 (.r (.r (.r (.r (.r (.r .root)))))) (Ag (Ag (Ag (Ag (Ag f 0 (.str l_0 c_0)) 1 (.int .i64 n_1)) 2 (.int .i64 n_2)) 8 (.bool b_8)) 9 (.str l_9 c_9)) h = Ad6 c k J l_0 c_0 n_1 n_2 b_8 l_9 c_9 h := by kernel_rfl
theorem A6v (J : To) (l_0 c_0 : Nat) (n_1 n_2 : Int) (b_8 : Bool) (l_9 c_9 : Nat) : zqe c k Akx Akc (f173 J) d173 Tryz.f173 (.r (.r (.r (.r (.r .root))))) (Ag (Ag (Ag (Ag (Ag f 0 (.str l_0 c_0)) 1 (.int .i64 n_1)) 2 (.int .i64 n_2)) 8 (.bool b_8)) 9 (.str l_9 c_9)) h = Ad5 c k J l_0 c_0 n_1 n_2 b_8 l_9 c_9 h := by kernel_rfl
theorem A94 (hc : Ci c) {n : Nat} {a : List AV} (hg : f173 (Pd c k n) 0 (Ac a) h) : zqs 173 a h k :=
 zqw hc Akx Tryz.func173 rfl (by kernel_rfl) (by kernel_rfl) k Akc (fun n => f173 (Pd c k n)) (fun L _ _ hl => match L, hl with
  | 0, hl => Bv hl fun _ _ hl => Bh hl fun _ hl => Bh hl fun _ hl => hl
  | 1, hl => Bh hl fun _ hl => Jb hl fun _ hl => Bv hl fun _ _ hl => Bh hl fun _ hl => Bh hl fun _ hl => Jb hl fun _ hl => Bh hl fun _ hl => Bh hl fun _ hl => Bh hl fun _ hl => hl
  | 2, hl => Bh hl fun _ hl => Jb hl fun _ hl => Bv hl fun _ _ hl => Bh hl fun _ hl => Bh hl fun _ hl => Jb hl fun _ hl => Bh hl fun _ hl => Bh hl fun _ hl => Bh hl fun _ hl => Bh hl fun _ hl => hl
  | 3, hl => Bv hl fun _ _ hl => Bh hl fun _ hl => Bh hl fun _ hl => Jb hl fun _ hl => Bv hl fun _ _ hl => Bh hl fun _ hl => hl
  | 4, hl => Bv hl fun _ _ hl => Bh hl fun _ hl => Bh hl fun _ hl => Jb hl fun _ hl => Bv hl fun _ _ hl => hl
  | 5, hl => Bv hl fun _ _ hl => Bh hl fun _ hl => Bh hl fun _ hl => Jb hl fun _ hl => Bv hl fun _ _ hl => hl
  | _ + 6, hl => hl) (fun n => ⟨
  fun f h hl => by
    refine Bu 0 hl fun _ _ hl => ?_; refine Bg 1 hl fun _ hl => ?_; refine Bg 2 hl fun _ hl => ?_; exact Eq.mpr (A60 ..) hl,
  fun f h hl => by
    refine Bg 1 hl fun _ hl => ?_; refine Ja 8 hl fun _ hl => ?_; refine Bu 9 hl fun _ _ hl => ?_; refine Bg 10 hl fun _ hl => ?_; refine Bg 11 hl fun _ hl => ?_; refine Ja 12 hl fun _ hl => ?_; refine Bg 13 hl fun _ hl => ?_; refine Bg 100 hl fun _ hl => ?_; refine Bg 101 hl fun _ hl => ?_; exact Eq.mpr (A6z ..) hl,
  fun f h hl => by
    refine Bg 1 hl fun _ hl => ?_; refine Ja 8 hl fun _ hl => ?_; refine Bu 9 hl fun _ _ hl => ?_; refine Bg 10 hl fun _ hl => ?_; refine Bg 11 hl fun _ hl => ?_; refine Ja 12 hl fun _ hl => ?_; refine Bg 13 hl fun _ hl => ?_; refine Bg 16 hl fun _ hl => ?_; refine Bg 100 hl fun _ hl => ?_; refine Bg 101 hl fun _ hl => ?_; exact Eq.mpr (A6y ..) hl,
  fun f h hl => by
    refine Bu 0 hl fun _ _ hl => ?_; refine Bg 1 hl fun _ hl => ?_; refine Bg 2 hl fun _ hl => ?_; refine Ja 8 hl fun _ hl => ?_; refine Bu 9 hl fun _ _ hl => ?_; refine Bg 10 hl fun _ hl => ?_; exact Eq.mpr (A6x ..) hl,
  fun f h hl => by
    refine Bu 0 hl fun _ _ hl => ?_; refine Bg 1 hl fun _ hl => ?_; refine Bg 2 hl fun _ hl => ?_; refine Ja 8 hl fun _ hl => ?_; refine Bu 9 hl fun _ _ hl => ?_; exact Eq.mpr (A6w ..) hl,
  fun f h hl => by
    refine Bu 0 hl fun _ _ hl => ?_; refine Bg 1 hl fun _ hl => ?_; refine Bg 2 hl fun _ hl => ?_; refine Ja 8 hl fun _ hl => ?_; refine Bu 9 hl fun _ _ hl => ?_; exact Eq.mpr (A6v ..) hl,
  trivial⟩) rfl hg
theorem Bi9 (hc : Ci c) {m : Nat} {a : List AV} (hg : Il env c A3r A2z d176 (Gs env Tryz.f176.results.toList k) m 0 (Ac a) h) : zqs 176 a h k := Jh mixed Ju hc A3r Tryz.func176 rfl (by kernel_rfl) (by kernel_rfl) (by kernel_rfl) (by simp [A2z]) hg
theorem Ave (J : Aw9) : zqe c k A3q A2y (f177 J) d177 Tryz.f177 .root f h = Aru c k J (f 0) h := by kernel_rfl
theorem Bi8 (hc : Ci c) {n : Nat} {a : List AV} (hg : f177 (Akv c k n) 0 (Ac a) h) : zqs 177 a h k :=
 zqw hc A3q Tryz.func177 rfl (by kernel_rfl) (by kernel_rfl) k A2y (fun n => f177 (Akv c k n)) (fun L _ _ hl => match L, hl with
  | 0, hl => hl
  | _ + 1, hl => hl) (fun n => ⟨
  fun f h hl => Eq.mpr (Ave ..) hl,
  trivial⟩) rfl hg
theorem A9r (hc : Ci c) {n : Nat} {a : List AV} (hg : f177 (Akv c k n) 0 (Ac a) h) : A2b 177 a h k :=
 A9f hc A3q Tryz.func177 rfl (by kernel_rfl) (by kernel_rfl) k A2y (fun n => f177 (Akv c k n)) (fun L _ _ hl => match L, hl with
  | 0, hl => hl
  | _ + 1, hl => hl) (fun n => ⟨
  fun f h hl => Eq.mpr (Ave ..) hl,
  trivial⟩) rfl hg
theorem A6u (J : Amh) (n_0 : Int) : zqe c k A3o A2w (f181 J) d181 Tryz.f181 .root (Ag f 0 (.int .u8 n_0)) h = Ad4 c k J n_0 h := by kernel_rfl
theorem A6t (J : Amh) (n_0 n_4 : Int) : zqe c k A3o A2w (f181 J) d181 Tryz.f181 (.l (.r (.l (.r .root)))) (Ag (Ag f 0 (.int .u8 n_0)) 4 (.int .i64 n_4)) h = Ad3 c k J n_0 n_4 h := by kernel_rfl
theorem A93 (hc : Ci c) {n : Nat} {a : List AV} (hg : f181 (Ah0 c k n) 0 (Ac a) h) : zqs 181 a h k :=
 zqw hc A3o Tryz.func181 rfl (by kernel_rfl) (by kernel_rfl) k A2w (fun n => f181 (Ah0 c k n)) (fun L _ _ hl => match L, hl with
  | 0, hl => Bh hl fun _ hl => hl
  | 1, hl => Bh hl fun _ hl => Bh hl fun _ hl => hl
  | _ + 2, hl => hl) (fun n => ⟨
  fun f h hl => by
    refine Bg 0 hl fun _ hl => ?_; exact Eq.mpr (A6u ..) hl,
  fun f h hl => by
    refine Bg 0 hl fun _ hl => ?_; refine Bg 4 hl fun _ hl => ?_; exact Eq.mpr (A6t ..) hl,
  trivial⟩) rfl hg
theorem A6n (J : Amf) (l_0 c_0 : Nat) : zqe c k A3l A2t (f219 J) d219 Tryz.f219 .root (Ag f 0 (.str l_0 c_0)) h = Adx c k J l_0 c_0 (f 1) h := by kernel_rfl
theorem A6m (J : Amf) (l_0 c_0 : Nat) : zqe c k A3l A2t (f219 J) d219 Tryz.f219 (.l (.l (.r .root))) (Ag f 0 (.str l_0 c_0)) h = Zc c k J l_0 c_0 (f 1) h := by kernel_rfl
theorem A9y (hc : Ci c) {n : Nat} {a : List AV} (hg : f219 (Ahz c k n) 0 (Ac a) h) : zqs 219 a h k :=
 zqw hc A3l Tryz.func219 rfl (by kernel_rfl) (by kernel_rfl) k A2t (fun n => f219 (Ahz c k n)) (fun L _ _ hl => match L, hl with
  | 0, hl => Bv hl fun _ _ hl => hl
  | 1, hl => Bv hl fun _ _ hl => hl
  | _ + 2, hl => hl) (fun n => ⟨
  fun f h hl => by
    refine Bu 0 hl fun _ _ hl => ?_; exact Eq.mpr (A6n ..) hl,
  fun f h hl => by
    refine Bu 0 hl fun _ _ hl => ?_; exact Eq.mpr (A6m ..) hl,
  trivial⟩) rfl hg
theorem A6l (J : Aw4) (n_0 : Int) : zqe c k Bcl Ba8 (f221 J) d221 Tryz.f221 .root (Ag f 0 (.int .u8 n_0)) h = Adw c k J n_0 h := by kernel_rfl
theorem A9x (hc : Ci c) {n : Nat} {a : List AV} (hg : f221 (Ar7 c k n) 0 (Ac a) h) : zqs 221 a h k :=
 zqw hc Bcl Tryz.func221 rfl (by kernel_rfl) (by kernel_rfl) k Ba8 (fun n => f221 (Ar7 c k n)) (fun L _ _ hl => match L, hl with
  | 0, hl => Bh hl fun _ hl => hl
  | _ + 1, hl => hl) (fun n => ⟨
  fun f h hl => by
    refine Bg 0 hl fun _ hl => ?_; exact Eq.mpr (A6l ..) hl,
  trivial⟩) rfl hg
theorem Bi5 (hc : Ci c) {m : Nat} {a : List AV} (hg : Il env c A3k A2s d227 (Gs env Tryz.f227.results.toList k) m 0 (Ac a) h) : zqs 227 a h k := Jh mixed Ju hc A3k Tryz.func227 rfl (by kernel_rfl) (by kernel_rfl) (by kernel_rfl) (by simp [A2s]) hg
theorem Bi3 (hc : Ci c) {m : Nat} {a : List AV} (hg : Il env c A3i A2q d230 (Gs env Tryz.f230.results.toList k) m 0 (Ac a) h) : zqs 230 a h k := Jh mixed Ju hc A3i Tryz.func230 rfl (by kernel_rfl) (by kernel_rfl) (by kernel_rfl) (by simp [A2q]) hg
theorem A6i (J : Aw1) (l_0 c_0 : Nat) : zqe c k Bci Ba5 (f265 J) d265 Tryz.f265 .root (Ag f 0 (.str l_0 c_0)) h = Adt c k J l_0 c_0 h := by kernel_rfl
theorem A9u (hc : Ci c) {n : Nat} {a : List AV} (hg : f265 (Ar4 c k n) 0 (Ac a) h) : zqs 265 a h k :=
 zqw hc Bci Tryz.func265 rfl (by kernel_rfl) (by kernel_rfl) k Ba5 (fun n => f265 (Ar4 c k n)) (fun L _ _ hl => match L, hl with
  | 0, hl => Bv hl fun _ _ hl => hl
  | _ + 1, hl => hl) (fun n => ⟨
  fun f h hl => by
    refine Bu 0 hl fun _ _ hl => ?_; exact Eq.mpr (A6i ..) hl,
  trivial⟩) rfl hg
theorem A6a (J : Aw0) (l_0 c_0 : Nat) (l_1 c_1 : Nat) : zqe c k Bch Ba4 (f376 J) d376 Tryz.f376 .root (Ag (Ag f 0 (.str l_0 c_0)) 1 (.str l_1 c_1)) h = Adn c k J l_0 c_0 l_1 c_1 h := by kernel_rfl
theorem A9s (hc : Ci c) {n : Nat} {a : List AV} (hg : f376 (Ar3 c k n) 0 (Ac a) h) : zqs 376 a h k :=
 zqw hc Bch Tryz.func376 rfl (by kernel_rfl) (by kernel_rfl) k Ba4 (fun n => f376 (Ar3 c k n)) (fun L _ _ hl => match L, hl with
  | 0, hl => Bv hl fun _ _ hl => Bv hl fun _ _ hl => hl
  | 1, hl => hl
  | _ + 2, hl => hl) (fun n => ⟨
  fun f h hl => by
    refine Bu 0 hl fun _ _ hl => ?_; refine Bu 1 hl fun _ _ hl => ?_; exact Eq.mpr (A6a ..) hl,
  fun _ _ hl => False.elim hl,
  trivial⟩) rfl hg
end Go.Den
