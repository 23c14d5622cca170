/-
 Part of the proof.
-/
import Derived.Test.YtcnmehbkpaoolaaGreatDoorRunA1
import Derived.KernelRfl
namespace Go.Den
open Go.Proofs
set_option maxRecDepth 100000
variable {c : CF} {k : KV} {f : FT} {h : H}
theorem Bl4 (J : J5) (n_1 n_2 : Int) : zqe c k q5 u5 (f5 J) d5 Tryz.f5 .root (Af (Af f 1 (.int .i64 n_1)) 2 (.int .i64 n_2)) h = Ays c k J (f 0) n_1 n_2 h := by kernel_rfl
theorem Bl3 (J : J5) (n_1 n_2 : Int) (l_7 c_7 : Nat) (l_8 c_8 : Nat) (n_9 : Int) : zqe c k q5 u5 (f5 J) d5 Tryz.f5 (.l (.r (.l (.r (.r (.r (.r (.r .root)))))))) (Af (Af (Af (Af (Af f 1 (.int .i64 n_1)) 2 (.int .i64 n_2)) 7 (.str l_7 c_7)) 8 (.str l_8 c_8)) 9 (.int .i64 n_9)) h = Ayr c k J (f 0) n_1 n_2 l_7 c_7 l_8 c_8 n_9 h := by kernel_rfl
theorem Bl2 (J : J5) (n_1 n_2 : Int) (l_7 c_7 : Nat) (l_8 c_8 : Nat) (n_9 n_10 : Int) : zqe c k q5 u5 (f5 J) d5 Tryz.f5 (.l (.r (.l (.r (.l (.l (.r (.l (.l (.r (.l (.r (.r (.r (.r (.r .root)))))))))))))))) (Af (Af (Af (Af (Af (Af f 1 (.int .i64 n_1)) 2 (.int .i64 n_2)) 7 (.str l_7 c_7)) 8 (.str l_8 c_8)) 9 (.int .i64 n_9)) 10 (.int .i64 n_10)) h = Ayq c k J (f 0) n_1 n_2 l_7 c_7 l_8 c_8 n_9 n_10 h := by kernel_rfl
theorem Bl1 (J : J5) (n_1 n_2 : Int) (l_7 c_7 : Nat) (l_8 c_8 : Nat) (n_9 : Int) : zqe c k q5 u5 (f5 J) d5 Tryz.f5 (.r (.r (.r (.l (.l (.r (.l (.l (.r (.l (.r (.r (.r (.r (.r .root))))))))))))))) (Af (Af (Af (Af (Af f 1 (.int .i64 n_1)) 2 (.int .i64 n_2)) 7 (.str l_7 c_7)) 8 (.str l_8 c_8)) 9 (.int .i64 n_9)) h = Ayp c k J (f 0) n_1 n_2 l_7 c_7 l_8 c_8 n_9 h := by kernel_rfl
theorem Bl0 (J : J5) (n_1 n_2 : Int) (l_8 c_8 : Nat) (l_13 c_13 : Nat) (n_14 : Int) : zqe c k q5 u5 (f5 J) d5 Tryz.f5 (.r (.l (.r (.l (.r (.r (.r (.r (.r (.r (.r (.r (.r .root))))))))))))) (Af (Af (Af (Af (Af f 1 (.int .i64 n_1)) 2 (.int .i64 n_2)) 8 (.str l_8 c_8)) 13 (.str l_13 c_13)) 14 (.int .i64 n_14)) h = Ayo c k J (f 0) n_1 n_2 l_8 c_8 (f 11) (f 12) l_13 c_13 n_14 h := by kernel_rfl
theorem Blz (J : J5) (l_8 c_8 : Nat) (l_13 c_13 : Nat) (n_14 : Int) : zqe c k q5 u5 (f5 J) d5 Tryz.f5 (.r (.r (.r (.r (.r (.r (.r (.r (.r (.r .root)))))))))) (Af (Af (Af f 8 (.str l_8 c_8)) 13 (.str l_13 c_13)) 14 (.int .i64 n_14)) h = Ayn c k J (f 0) l_8 c_8 (f 11) (f 12) l_13 c_13 n_14 h := by kernel_rfl
theorem Bly (J : J5) (n_1 n_2 : Int) (l_8 c_8 : Nat) (l_13 c_13 : Nat) (n_14 : Int) : zqe c k q5 u5 (f5 J) d5 Tryz.f5 (.r (.r (.r (.r (.r (.r (.r (.r (.r .root))))))))) (Af (Af (Af (Af (Af f 1 (.int .i64 n_1)) 2 (.int .i64 n_2)) 8 (.str l_8 c_8)) 13 (.str l_13 c_13)) 14 (.int .i64 n_14)) h = Aym c k J (f 0) n_1 n_2 l_8 c_8 (f 11) (f 12) l_13 c_13 n_14 h := by kernel_rfl
theorem w5 (hc : Cj c) {n : Nat} {a : List AV} (hg : f5 (r5 c k n) 0 (Ac a) h) : zqs 5 a h k :=
 zqw hc q5 Tryz.func5 rfl (by kernel_rfl) (by kernel_rfl) k u5 (fun n => f5 (r5 c k n)) (fun L _ _ hl => match L, hl with
  | 0, hl => Bc hl fun _ hl => Bc hl fun _ hl => hl
  | 1, hl => Bc hl fun _ hl => Bc hl fun _ hl => Bj hl fun _ _ hl => Bj hl fun _ _ hl => Bc hl fun _ hl => hl
  | 2, hl => Bc hl fun _ hl => Bc hl fun _ hl => Bj hl fun _ _ hl => Bj hl fun _ _ hl => Bc hl fun _ hl => Bc hl fun _ hl => hl
  | 3, hl => Bc hl fun _ hl => Bc hl fun _ hl => Bj hl fun _ _ hl => Bj hl fun _ _ hl => Bc hl fun _ hl => hl
  | 4, hl => Bc hl fun _ hl => Bc hl fun _ hl => Bj hl fun _ _ hl => Bj hl fun _ _ hl => Bc hl fun _ hl => hl
  | 5, hl => Bj hl fun _ _ hl => Bj hl fun _ _ hl => Bc hl fun _ hl => hl
  | 6, hl => Bc hl fun _ hl => Bc hl fun _ hl => Bj hl fun _ _ hl => Bj hl fun _ _ hl => Bc hl fun _ hl => hl
  | _ + 7, hl => hl) (fun n => ⟨
  fun f h hl => by
    refine Bb 1 hl fun _ hl => ?_; refine Bb 2 hl fun _ hl => ?_; exact Eq.mpr (Bl4 ..) hl,
  fun f h hl => by
    refine Bb 1 hl fun _ hl => ?_; refine Bb 2 hl fun _ hl => ?_; refine Bi 7 hl fun _ _ hl => ?_; refine Bi 8 hl fun _ _ hl => ?_; refine Bb 9 hl fun _ hl => ?_; exact Eq.mpr (Bl3 ..) hl,
  fun f h hl => by
    refine Bb 1 hl fun _ hl => ?_; refine Bb 2 hl fun _ hl => ?_; refine Bi 7 hl fun _ _ hl => ?_; refine Bi 8 hl fun _ _ hl => ?_; refine Bb 9 hl fun _ hl => ?_; refine Bb 10 hl fun _ hl => ?_; exact Eq.mpr (Bl2 ..) hl,
  fun f h hl => by
    refine Bb 1 hl fun _ hl => ?_; refine Bb 2 hl fun _ hl => ?_; refine Bi 7 hl fun _ _ hl => ?_; refine Bi 8 hl fun _ _ hl => ?_; refine Bb 9 hl fun _ hl => ?_; exact Eq.mpr (Bl1 ..) hl,
  fun f h hl => by
    refine Bb 1 hl fun _ hl => ?_; refine Bb 2 hl fun _ hl => ?_; refine Bi 8 hl fun _ _ hl => ?_; refine Bi 13 hl fun _ _ hl => ?_; refine Bb 14 hl fun _ hl => ?_; exact Eq.mpr (Bl0 ..) hl,
  fun f h hl => by
    refine Bi 8 hl fun _ _ hl => ?_; refine Bi 13 hl fun _ _ hl => ?_; refine Bb 14 hl fun _ hl => ?_; exact Eq.mpr (Blz ..) hl,
  fun f h hl => by
    refine Bb 1 hl fun _ hl => ?_; refine Bb 2 hl fun _ hl => ?_; refine Bi 8 hl fun _ _ hl => ?_; refine Bi 13 hl fun _ _ hl => ?_; refine Bb 14 hl fun _ hl => ?_; exact Eq.mpr (Bly ..) hl,
  trivial⟩) rfl hg
theorem Bgb (J : J16) : zqe c k q16 u16 (f16 J) d16 Tryz.f16 .root f h = An1 c k J (f 0) h := by kernel_rfl
theorem Bga (J : J16) (n_5 : Int) : zqe c k q16 u16 (f16 J) d16 Tryz.f16 (.l (.r (.l (.r (.r .root))))) (Af f 5 (.int .i64 n_5)) h = An0 c k J (f 0) (f 4) n_5 h := by kernel_rfl
theorem Bf9 (J : J16) (n_5 : Int) : zqe c k q16 u16 (f16 J) d16 Tryz.f16 (.r (.r (.r (.r (.l (.r (.l (.l (.r (.l (.r (.r .root)))))))))))) (Af f 5 (.int .i64 n_5)) h = Anz c k J (f 0) (f 4) n_5 h := by kernel_rfl
theorem w16 (hc : Cj c) {n : Nat} {a : List AV} (hg : f16 (r16 c k n) 0 (Ac a) h) : zqs 16 a h k :=
 zqw hc q16 Tryz.func16 rfl (by kernel_rfl) (by kernel_rfl) k u16 (fun n => f16 (r16 c k n)) (fun L _ _ hl => match L, hl with
  | 0, hl => hl
  | 1, hl => Bc hl fun _ hl => hl
  | 2, hl => Bc hl fun _ hl => hl
  | _ + 3, hl => hl) (fun n => ⟨
  fun f h hl => Eq.mpr (Bgb ..) hl,
  fun f h hl => by
    refine Bb 5 hl fun _ hl => ?_; exact Eq.mpr (Bga ..) hl,
  fun f h hl => by
    refine Bb 5 hl fun _ hl => ?_; exact Eq.mpr (Bf9 ..) hl,
  trivial⟩) rfl hg
theorem w20 (hc : Cj c) {m : Nat} {a : List AV} (hg : Ik env c q20 u20 d20 (Gp env Tryz.f20.results.toList k) m 0 (Ac a) h) : zqs 20 a h k := Jg mixed Js hc q20 Tryz.func20 rfl (by kernel_rfl) (by kernel_rfl) (by kernel_rfl) (by simp [u20]) hg
theorem Bf6 (J : J23) (n_0 n_1 : Int) : zqe c k q23 u23 (f23 J) d23 Tryz.f23 .root (Af (Af f 0 (.int .i64 n_0)) 1 (.int .i64 n_1)) h = Anw c k J n_0 n_1 h := by kernel_rfl
theorem w23 (hc : Cj c) {n : Nat} {a : List AV} (hg : f23 (r23 c k n) 0 (Ac a) h) : zqs 23 a h k :=
 zqw hc q23 Tryz.func23 rfl (by kernel_rfl) (by kernel_rfl) k u23 (fun n => f23 (r23 c k n)) (fun L _ _ hl => match L, hl with
  | 0, hl => Bc hl fun _ hl => Bc hl fun _ hl => hl
  | _ + 1, hl => hl) (fun n => ⟨
  fun f h hl => by
    refine Bb 0 hl fun _ hl => ?_; refine Bb 1 hl fun _ hl => ?_; exact Eq.mpr (Bf6 ..) hl,
  trivial⟩) rfl hg
theorem Bf2 (J : J34) (n_1 : Int) : zqe c k q34 u34 (f34 J) d34 Tryz.f34 .root (Af f 1 (.int .i64 n_1)) h = Ans c k J (f 0) n_1 h := by kernel_rfl
theorem Bf1 (J : J34) (n_1 : Int) (l_7 c_7 : Nat) (b_8 : Bool) (n_9 n_10 : Int) : zqe c k q34 u34 (f34 J) d34 Tryz.f34 (.l (.r (.l (.r (.r (.r (.r .root))))))) (Af (Af (Af (Af (Af f 1 (.int .i64 n_1)) 7 (.str l_7 c_7)) 8 (.bool b_8)) 9 (.int .i64 n_9)) 10 (.int .i64 n_10)) h = Anr c k J (f 0) n_1 (f 5) (f 6) l_7 c_7 b_8 n_9 n_10 h := by kernel_rfl
theorem Bf0 (J : J34) (n_1 : Int) (l_7 c_7 : Nat) (b_8 : Bool) (n_10 : Int) (l_12 c_12 : Nat) : zqe c k q34 u34 (f34 J) d34 Tryz.f34 (.r (.r (.r (.r (.r (.r (.l (.l (.r (.l (.l (.r (.l (.r (.r (.r (.r .root))))))))))))))))) (Af (Af (Af (Af (Af f 1 (.int .i64 n_1)) 7 (.str l_7 c_7)) 8 (.bool b_8)) 10 (.int .i64 n_10)) 12 (.str l_12 c_12)) h = Anq c k J (f 0) n_1 (f 5) (f 6) l_7 c_7 b_8 n_10 l_12 c_12 h := by kernel_rfl
theorem Bfz (J : J34) (n_1 : Int) (l_7 c_7 : Nat) (b_8 : Bool) (n_9 n_10 : Int) : zqe c k q34 u34 (f34 J) d34 Tryz.f34 (.r (.r (.l (.l (.r (.l (.r (.r (.r (.r .root)))))))))) (Af (Af (Af (Af (Af f 1 (.int .i64 n_1)) 7 (.str l_7 c_7)) 8 (.bool b_8)) 9 (.int .i64 n_9)) 10 (.int .i64 n_10)) h = Anp c k J (f 0) n_1 (f 5) (f 6) l_7 c_7 b_8 n_9 n_10 h := by kernel_rfl
theorem Bfy (J : J34) (n_1 : Int) (l_7 c_7 : Nat) (n_9 : Int) : zqe c k q34 u34 (f34 J) d34 Tryz.f34 (.r (.r (.r (.r (.r .root))))) (Af (Af (Af f 1 (.int .i64 n_1)) 7 (.str l_7 c_7)) 9 (.int .i64 n_9)) h = Ano c k J (f 0) n_1 (f 5) (f 6) l_7 c_7 n_9 h := by kernel_rfl
theorem w34 (hc : Cj c) {n : Nat} {a : List AV} (hg : f34 (r34 c k n) 0 (Ac a) h) : zqs 34 a h k :=
 zqw hc q34 Tryz.func34 rfl (by kernel_rfl) (by kernel_rfl) k u34 (fun n => f34 (r34 c k n)) (fun L _ _ hl => match L, hl with
  | 0, hl => Bc hl fun _ hl => hl
  | 1, hl => Bc hl fun _ hl => Bj hl fun _ _ hl => Ja hl fun _ hl => Bc hl fun _ hl => Bc hl fun _ hl => hl
  | 2, hl => Bc hl fun _ hl => Bj hl fun _ _ hl => Ja hl fun _ hl => Bc hl fun _ hl => Bj hl fun _ _ hl => hl
  | 3, hl => Bc hl fun _ hl => Bj hl fun _ _ hl => Ja hl fun _ hl => Bc hl fun _ hl => Bc hl fun _ hl => hl
  | 4, hl => Bc hl fun _ hl => Bj hl fun _ _ hl => Bc hl fun _ hl => hl
  | _ + 5, hl => hl) (fun n => ⟨
  fun f h hl => by
    refine Bb 1 hl fun _ hl => ?_; exact Eq.mpr (Bf2 ..) hl,
  fun f h hl => by
    refine Bb 1 hl fun _ hl => ?_; refine Bi 7 hl fun _ _ hl => ?_; refine Iz 8 hl fun _ hl => ?_; refine Bb 9 hl fun _ hl => ?_; refine Bb 10 hl fun _ hl => ?_; exact Eq.mpr (Bf1 ..) hl,
  fun f h hl => by
    refine Bb 1 hl fun _ hl => ?_; refine Bi 7 hl fun _ _ hl => ?_; refine Iz 8 hl fun _ hl => ?_; refine Bb 10 hl fun _ hl => ?_; refine Bi 12 hl fun _ _ hl => ?_; exact Eq.mpr (Bf0 ..) hl,
  fun f h hl => by
    refine Bb 1 hl fun _ hl => ?_; refine Bi 7 hl fun _ _ hl => ?_; refine Iz 8 hl fun _ hl => ?_; refine Bb 9 hl fun _ hl => ?_; refine Bb 10 hl fun _ hl => ?_; exact Eq.mpr (Bfz ..) hl,
  fun f h hl => by
    refine Bb 1 hl fun _ hl => ?_; refine Bi 7 hl fun _ _ hl => ?_; refine Bb 9 hl fun _ hl => ?_; exact Eq.mpr (Bfy ..) hl,
  trivial⟩) rfl hg
theorem Bfw (J : J36) : zqe c k q36 u36 (f36 J) d36 Tryz.f36 .root f h = Anm c k J (f 0) (f 1) h := by kernel_rfl
theorem w36 (hc : Cj c) {n : Nat} {a : List AV} (hg : f36 (r36 c k n) 0 (Ac a) h) : zqs 36 a h k :=
 zqw hc q36 Tryz.func36 rfl (by kernel_rfl) (by kernel_rfl) k u36 (fun n => f36 (r36 c k n)) (fun L _ _ hl => match L, hl with
  | 0, hl => hl
  | _ + 1, hl => hl) (fun n => ⟨
  fun f h hl => Eq.mpr (Bfw ..) hl,
  trivial⟩) rfl hg
theorem Bfo (J : J59) (l_0 c_0 : Nat) : zqe c k q59 u59 (f59 J) d59 Tryz.f59 .root (Af f 0 (.str l_0 c_0)) h = Anh c k J l_0 c_0 h := by kernel_rfl
theorem Bfn (J : J59) (l_0 c_0 : Nat) (l_5 c_5 : Nat) : zqe c k q59 u59 (f59 J) d59 Tryz.f59 (.lab (.r .root) 1) (Af (Af f 0 (.str l_0 c_0)) 5 (.str l_5 c_5)) h = Ahu c k J l_0 c_0 (f 4) l_5 c_5 h := by kernel_rfl
theorem Bfm (J : J59) : zqe c k q59 u59 (f59 J) d59 Tryz.f59 (.lab (.r .root) 0) f h = Aht c k J  h := by kernel_rfl
theorem Bfl (J : J59) (l_0 c_0 : Nat) (l_5 c_5 : Nat) (n_8 n_9 : Int) : zqe c k q59 u59 (f59 J) d59 Tryz.f59 (.r (.l (.r (.r (.r (.r (.r (.r (.r (.l (.r .root))))))))))) (Af (Af (Af (Af f 0 (.str l_0 c_0)) 5 (.str l_5 c_5)) 8 (.int .u8 n_8)) 9 (.int .i64 n_9)) h = Ang c k J l_0 c_0 (f 4) l_5 c_5 n_8 n_9 h := by kernel_rfl
theorem w59 (hc : Cj c) {n : Nat} {a : List AV} (hg : f59 (r59 c k n) 0 (Ac a) h) : zqs 59 a h k :=
 zqw hc q59 Tryz.func59 rfl (by kernel_rfl) (by kernel_rfl) k u59 (fun n => f59 (r59 c k n)) (fun L _ _ hl => match L, hl with
  | 0, hl => Bj hl fun _ _ hl => hl
  | 1, hl => Bj hl fun _ _ hl => Bj hl fun _ _ hl => hl
  | 2, hl => hl
  | 3, hl => Bj hl fun _ _ hl => Bj hl fun _ _ hl => Bc hl fun _ hl => Bc hl fun _ hl => hl
  | _ + 4, hl => hl) (fun n => ⟨
  fun f h hl => by
    refine Bi 0 hl fun _ _ hl => ?_; exact Eq.mpr (Bfo ..) hl,
  fun f h hl => by
    refine Bi 0 hl fun _ _ hl => ?_; refine Bi 5 hl fun _ _ hl => ?_; exact Eq.mpr (Bfn ..) hl,
  fun f h hl => Eq.mpr (Bfm ..) hl,
  fun f h hl => by
    refine Bi 0 hl fun _ _ hl => ?_; refine Bi 5 hl fun _ _ hl => ?_; refine Bb 8 hl fun _ hl => ?_; refine Bb 9 hl fun _ hl => ?_; exact Eq.mpr (Bfl ..) hl,
  trivial⟩) rfl hg
theorem Bfk (J : J60) (l_0 c_0 : Nat) : zqe c k q60 u60 (f60 J) d60 Tryz.f60 .root (Af f 0 (.str l_0 c_0)) h = Anf c k J l_0 c_0 h := by kernel_rfl
theorem Bfj (J : J60) (l_0 c_0 : Nat) (n_9 n_10 : Int) : zqe c k q60 u60 (f60 J) d60 Tryz.f60 (.l (.r (.l (.r .root)))) (Af (Af (Af f 0 (.str l_0 c_0)) 9 (.int .i64 n_9)) 10 (.int .i64 n_10)) h = Ane c k J l_0 c_0 (f 8) n_9 n_10 h := by kernel_rfl
theorem w60 (hc : Cj c) {n : Nat} {a : List AV} (hg : f60 (r60 c k n) 0 (Ac a) h) : zqs 60 a h k :=
 zqw hc q60 Tryz.func60 rfl (by kernel_rfl) (by kernel_rfl) k u60 (fun n => f60 (r60 c k n)) (fun L _ _ hl => match L, hl with
  | 0, hl => Bj hl fun _ _ hl => hl
  | 1, hl => Bj hl fun _ _ hl => Bc hl fun _ hl => Bc hl fun _ hl => hl
  | _ + 2, hl => hl) (fun n => ⟨
  fun f h hl => by
    refine Bi 0 hl fun _ _ hl => ?_; exact Eq.mpr (Bfk ..) hl,
  fun f h hl => by
    refine Bi 0 hl fun _ _ hl => ?_; refine Bb 9 hl fun _ hl => ?_; refine Bb 10 hl fun _ hl => ?_; exact Eq.mpr (Bfj ..) hl,
  trivial⟩) rfl hg
theorem Bfg (J : J63) : zqe c k q63 u63 (f63 J) d63 Tryz.f63 .root f h = Ahr c k J (f 0) h := by kernel_rfl
theorem w63 (hc : Cj c) {n : Nat} {a : List AV} (hg : f63 (r63 c k n) 0 (Ac a) h) : zqs 63 a h k :=
 zqw hc q63 Tryz.func63 rfl (by kernel_rfl) (by kernel_rfl) k u63 (fun n => f63 (r63 c k n)) (fun L _ _ hl => match L, hl with
  | 0, hl => hl
  | _ + 1, hl => hl) (fun n => ⟨
  fun f h hl => Eq.mpr (Bfg ..) hl,
  trivial⟩) rfl hg
theorem Bff (J : J64) (l_0 c_0 : Nat) : zqe c k q64 u64 (f64 J) d64 Tryz.f64 .root (Af f 0 (.str l_0 c_0)) h = Ana c k J l_0 c_0 h := by kernel_rfl
theorem Bfe (J : J64) (l_4 c_4 : Nat) (b_5 b_6 : Bool) (n_7 : Int) (l_8 c_8 : Nat) : zqe c k q64 u64 (f64 J) d64 Tryz.f64 (.r (.r (.r (.r (.r .root))))) (Af (Af (Af (Af (Af f 4 (.str l_4 c_4)) 5 (.bool b_5)) 6 (.bool b_6)) 7 (.int .i64 n_7)) 8 (.str l_8 c_8)) h = Am9 c k J (f 2) l_4 c_4 b_5 b_6 n_7 l_8 c_8 h := by kernel_rfl
theorem w64 (hc : Cj c) {n : Nat} {a : List AV} (hg : f64 (r64 c k n) 0 (Ac a) h) : zqs 64 a h k :=
 zqw hc q64 Tryz.func64 rfl (by kernel_rfl) (by kernel_rfl) k u64 (fun n => f64 (r64 c k n)) (fun L _ _ hl => match L, hl with
  | 0, hl => Bj hl fun _ _ hl => hl
  | 1, hl => Bj hl fun _ _ hl => Ja hl fun _ hl => Ja hl fun _ hl => Bc hl fun _ hl => Bj hl fun _ _ hl => hl
  | _ + 2, hl => hl) (fun n => ⟨
  fun f h hl => by
    refine Bi 0 hl fun _ _ hl => ?_; exact Eq.mpr (Bff ..) hl,
  fun f h hl => by
    refine Bi 4 hl fun _ _ hl => ?_; refine Iz 5 hl fun _ hl => ?_; refine Iz 6 hl fun _ hl => ?_; refine Bb 7 hl fun _ hl => ?_; refine Bi 8 hl fun _ _ hl => ?_; exact Eq.mpr (Bfe ..) hl,
  trivial⟩) rfl hg
theorem w76 (hc : Cj c) {m : Nat} {a : List AV} (hg : Ik env c q76 u76 d76 (Gp env Tryz.f76.results.toList k) m 0 (Ac a) h) : zqs 76 a h k := Jg mixed Js hc q76 Tryz.func76 rfl (by kernel_rfl) (by kernel_rfl) (by kernel_rfl) (by simp [u76]) hg
theorem Be5 (J : J77) (l_0 c_0 : Nat) : zqe c k q77 u77 (f77 J) d77 Tryz.f77 .root (Af f 0 (.str l_0 c_0)) h = Am0 c k J l_0 c_0 h := by kernel_rfl
theorem w77 (hc : Cj c) {n : Nat} {a : List AV} (hg : f77 (r77 c k n) 0 (Ac a) h) : zqs 77 a h k :=
 zqw hc q77 Tryz.func77 rfl (by kernel_rfl) (by kernel_rfl) k u77 (fun n => f77 (r77 c k n)) (fun L _ _ hl => match L, hl with
  | 0, hl => Bj hl fun _ _ hl => hl
  | _ + 1, hl => hl) (fun n => ⟨
  fun f h hl => by
    refine Bi 0 hl fun _ _ hl => ?_; exact Eq.mpr (Be5 ..) hl,
  trivial⟩) rfl hg
theorem Be4 (J : J78) (n_0 : Int) : zqe c k q78 u78 (f78 J) d78 Tryz.f78 .root (Af f 0 (.int .u8 n_0)) h = Amz c k J n_0 h := by kernel_rfl
theorem w78 (hc : Cj c) {n : Nat} {a : List AV} (hg : f78 (r78 c k n) 0 (Ac a) h) : zqs 78 a h k :=
 zqw hc q78 Tryz.func78 rfl (by kernel_rfl) (by kernel_rfl) k u78 (fun n => f78 (r78 c k n)) (fun L _ _ hl => match L, hl with
  | 0, hl => Bc hl fun _ hl => hl
  | _ + 1, hl => hl) (fun n => ⟨
  fun f h hl => by
    refine Bb 0 hl fun _ hl => ?_; exact Eq.mpr (Be4 ..) hl,
  trivial⟩) rfl hg
theorem Bex (J : J81) : zqe c k q81 u81 (f81 J) d81 Tryz.f81 .root f h = Amt c k J (f 0) h := by kernel_rfl
theorem Bew (J : J81) (n_4 : Int) : zqe c k q81 u81 (f81 J) d81 Tryz.f81 (.l (.r (.l (.r (.r .root))))) (Af f 4 (.int .i64 n_4)) h = Ams c k J (f 0) (f 3) n_4 h := by kernel_rfl
theorem w81 (hc : Cj c) {n : Nat} {a : List AV} (hg : f81 (r81 c k n) 0 (Ac a) h) : zqs 81 a h k :=
 zqw hc q81 Tryz.func81 rfl (by kernel_rfl) (by kernel_rfl) k u81 (fun n => f81 (r81 c k n)) (fun L _ _ hl => match L, hl with
  | 0, hl => hl
  | 1, hl => Bc hl fun _ hl => hl
  | _ + 2, hl => hl) (fun n => ⟨
  fun f h hl => Eq.mpr (Bex ..) hl,
  fun f h hl => by
    refine Bb 4 hl fun _ hl => ?_; exact Eq.mpr (Bew ..) hl,
  trivial⟩) rfl hg
theorem A8h (J : Ax1) : zqe c k Bdb Bb4 (f110 J) d110 Tryz.f110 .root f h = Afi c k J (f 0) h := by kernel_rfl
theorem Ba7 (hc : Cj c) {n : Nat} {a : List AV} (hg : f110 (As4 c k n) 0 (Ac a) h) : zqs 110 a h k :=
 zqw hc Bdb Tryz.func110 rfl (by kernel_rfl) (by kernel_rfl) k Bb4 (fun n => f110 (As4 c k n)) (fun L _ _ hl => match L, hl with
  | 0, hl => hl
  | _ + 1, hl => hl) (fun n => ⟨
  fun f h hl => Eq.mpr (A8h ..) hl,
  trivial⟩) rfl hg
theorem A8g (J : Ax0) (l_0 c_0 : Nat) : zqe c k Bda Bb3 (f111 J) d111 Tryz.f111 .root (Af f 0 (.str l_0 c_0)) h = Afh c k J l_0 c_0 h := by kernel_rfl
theorem Ba6 (hc : Cj c) {n : Nat} {a : List AV} (hg : f111 (As3 c k n) 0 (Ac a) h) : zqs 111 a h k :=
 zqw hc Bda Tryz.func111 rfl (by kernel_rfl) (by kernel_rfl) k Bb3 (fun n => f111 (As3 c k n)) (fun L _ _ hl => match L, hl with
  | 0, hl => Bj hl fun _ _ hl => hl
  | _ + 1, hl => hl) (fun n => ⟨
  fun f h hl => by
    refine Bi 0 hl fun _ _ hl => ?_; exact Eq.mpr (A8g ..) hl,
  trivial⟩) rfl hg
theorem A8b (J : Axx) (l_0 c_0 : Nat) (l_1 c_1 : Nat) : zqe c k Bc7 Bb0 (f115 J) d115 Tryz.f115 .root (Af (Af f 0 (.str l_0 c_0)) 1 (.str l_1 c_1)) h = Ako c k J l_0 c_0 l_1 c_1 h := by kernel_rfl
theorem Ba2 (hc : Cj c) {n : Nat} {a : List AV} (hg : f115 (As0 c k n) 0 (Ac a) h) : zqs 115 a h k :=
 zqw hc Bc7 Tryz.func115 rfl (by kernel_rfl) (by kernel_rfl) k Bb0 (fun n => f115 (As0 c k n)) (fun L _ _ hl => match L, hl with
  | 0, hl => Bj hl fun _ _ hl => Bj hl fun _ _ hl => hl
  | _ + 1, hl => hl) (fun n => ⟨
  fun f h hl => by
    refine Bi 0 hl fun _ _ hl => ?_; refine Bi 1 hl fun _ _ hl => ?_; exact Eq.mpr (A8b ..) hl,
  trivial⟩) rfl hg
theorem A78 (J : Aml) (l_0 c_0 : Nat) (l_1 c_1 : Nat) : zqe c k A31 A29 (f118 J) d118 Tryz.f118 .root (Af (Af f 0 (.str l_0 c_0)) 1 (.str l_1 c_1)) h = Afa c k J l_0 c_0 l_1 c_1 h := by kernel_rfl
theorem A77 (J : Aml) (l_0 c_0 : Nat) (l_6 c_6 : Nat) : zqe c k A31 A29 (f118 J) d118 Tryz.f118 (.r (.r (.r (.r .root)))) (Af (Af f 0 (.str l_0 c_0)) 6 (.str l_6 c_6)) h = Ae9 c k J l_0 c_0 l_6 c_6 h := by kernel_rfl
theorem Baz (hc : Cj c) {n : Nat} {a : List AV} (hg : f118 (Abn c k n) 0 (Ac a) h) : zqs 118 a h k :=
 zqw hc A31 Tryz.func118 rfl (by kernel_rfl) (by kernel_rfl) k A29 (fun n => f118 (Abn c k n)) (fun L _ _ hl => match L, hl with
  | 0, hl => Bj hl fun _ _ hl => Bj hl fun _ _ hl => hl
  | 1, hl => Bj hl fun _ _ hl => Bj hl fun _ _ hl => hl
  | _ + 2, hl => hl) (fun n => ⟨
  fun f h hl => by
    refine Bi 0 hl fun _ _ hl => ?_; refine Bi 1 hl fun _ _ hl => ?_; exact Eq.mpr (A78 ..) hl,
  fun f h hl => by
    refine Bi 0 hl fun _ _ hl => ?_; refine Bi 6 hl fun _ _ hl => ?_; exact Eq.mpr (A77 ..) hl,
  trivial⟩) rfl hg
theorem A75 (J : Axt) : zqe c k Bc3 Bbw (f120 J) d120 Tryz.f120 .root f h = Ae7 c k J (f 0) h := by kernel_rfl
theorem Bax (hc : Cj c) {n : Nat} {a : List AV} (hg : f120 (Asw c k n) 0 (Ac a) h) : zqs 120 a h k :=
 zqw hc Bc3 Tryz.func120 rfl (by kernel_rfl) (by kernel_rfl) k Bbw (fun n => f120 (Asw c k n)) (fun L _ _ hl => match L, hl with
  | 0, hl => hl
  | _ + 1, hl => hl) (fun n => ⟨
  fun f h hl => Eq.mpr (A75 ..) hl,
  trivial⟩) rfl hg
theorem Bje (hc : Cj c) {m : Nat} {a : List AV} (hg : Ik env c A30 A28 d124 (Gp env Tryz.f124.results.toList k) m 0 (Ac a) h) : zqs 124 a h k := Jg mixed Js hc A30 Tryz.func124 rfl (by kernel_rfl) (by kernel_rfl) (by kernel_rfl) (by simp [A28]) hg
theorem A70 (J : Ag8) (l_0 c_0 : Nat) : zqe c k Ay5 Ayc (f128 J) d128 Tryz.f128 .root (Af f 0 (.str l_0 c_0)) h = Ae4 c k J l_0 c_0 h := by kernel_rfl
theorem A7z (J : Ag8) (l_0 c_0 : Nat) (n_4 : Int) : zqe c k Ay5 Ayc (f128 J) d128 Tryz.f128 (.l (.r (.l (.r (.r .root))))) (Af (Af f 0 (.str l_0 c_0)) 4 (.int .i64 n_4)) h = Ae3 c k J l_0 c_0 (f 3) n_4 h := by kernel_rfl
theorem A7y (J : Ag8) (l_0 c_0 : Nat) (n_4 : Int) : zqe c k Ay5 Ayc (f128 J) d128 Tryz.f128 (.r (.l (.r (.l (.l (.r (.l (.r (.r .root))))))))) (Af (Af f 0 (.str l_0 c_0)) 4 (.int .i64 n_4)) h = Ae2 c k J l_0 c_0 (f 3) n_4 h := by kernel_rfl
theorem Bau (hc : Cj c) {n : Nat} {a : List AV} (hg : f128 (Zt c k n) 0 (Ac a) h) : zqs 128 a h k :=
 zqw hc Ay5 Tryz.func128 rfl (by kernel_rfl) (by kernel_rfl) k Ayc (fun n => f128 (Zt c k n)) (fun L _ _ hl => match L, hl with
  | 0, hl => Bj hl fun _ _ hl => hl
  | 1, hl => Bj hl fun _ _ hl => Bc hl fun _ hl => hl
  | 2, hl => Bj hl fun _ _ hl => Bc hl fun _ hl => hl
  | _ + 3, hl => hl) (fun n => ⟨
  fun f h hl => by
    refine Bi 0 hl fun _ _ hl => ?_; exact Eq.mpr (A70 ..) hl,
  fun f h hl => by
    refine Bi 0 hl fun _ _ hl => ?_; refine Bb 4 hl fun _ hl => ?_; exact Eq.mpr (A7z ..) hl,
  fun f h hl => by
    refine Bi 0 hl fun _ _ hl => ?_; refine Bb 4 hl fun _ hl => ?_; exact Eq.mpr (A7y ..) hl,
  trivial⟩) rfl hg
theorem A7x (J : Axr) (n_1 : Int) : zqe c k Bc1 Bbu (f129 J) d129 Tryz.f129 .root (Af f 1 (.int .i64 n_1)) h = Ae1 c k J (f 0) n_1 h := by kernel_rfl
theorem Bat (hc : Cj c) {n : Nat} {a : List AV} (hg : f129 (Asu c k n) 0 (Ac a) h) : zqs 129 a h k :=
 zqw hc Bc1 Tryz.func129 rfl (by kernel_rfl) (by kernel_rfl) k Bbu (fun n => f129 (Asu c k n)) (fun L _ _ hl => match L, hl with
  | 0, hl => Bc hl fun _ hl => hl
  | _ + 1, hl => hl) (fun n => ⟨
  fun f h hl => by
    refine Bb 1 hl fun _ hl => ?_; exact Eq.mpr (A7x ..) hl,
  trivial⟩) rfl hg
theorem A7r (J : Axo) (n_0 : Int) : zqe c k Bcy Bbr (f133 J) d133 Tryz.f133 .root (Af f 0 (.int .u8 n_0)) h = Aew c k J n_0 h := by kernel_rfl
theorem Bap (hc : Cj c) {n : Nat} {a : List AV} (hg : f133 (Asq c k n) 0 (Ac a) h) : zqs 133 a h k :=
 zqw hc Bcy Tryz.func133 rfl (by kernel_rfl) (by kernel_rfl) k Bbr (fun n => f133 (Asq c k n)) (fun L _ _ hl => match L, hl with
  | 0, hl => Bc hl fun _ hl => hl
  | _ + 1, hl => hl) (fun n => ⟨
  fun f h hl => by
    refine Bb 0 hl fun _ hl => ?_; exact Eq.mpr (A7r ..) hl,
  trivial⟩) rfl hg
theorem A7q (J : Amk) (n_1 : Int) : zqe c k A3z A27 (f134 J) d134 Tryz.f134 .root (Af f 1 (.int .i64 n_1)) h = Aev c k J (f 0) n_1 h := by kernel_rfl
theorem A7p (J : Amk) (n_5 : Int) : zqe c k A3z A27 (f134 J) d134 Tryz.f134 (.l (.r (.r (.r .root)))) (Af f 5 (.int .i64 n_5)) h = Aeu c k J (f 0) n_5 h := by kernel_rfl
theorem Bao (hc : Cj c) {n : Nat} {a : List AV} (hg : f134 (Ah5 c k n) 0 (Ac a) h) : zqs 134 a h k :=
 zqw hc A3z Tryz.func134 rfl (by kernel_rfl) (by kernel_rfl) k A27 (fun n => f134 (Ah5 c k n)) (fun L _ _ hl => match L, hl with
  | 0, hl => Bc hl fun _ hl => hl
  | 1, hl => Bc hl fun _ hl => hl
  | _ + 2, hl => hl) (fun n => ⟨
  fun f h hl => by
    refine Bb 1 hl fun _ hl => ?_; exact Eq.mpr (A7q ..) hl,
  fun f h hl => by
    refine Bb 5 hl fun _ hl => ?_; exact Eq.mpr (A7p ..) hl,
  trivial⟩) rfl hg
theorem A7o (J : Ag6) (n_1 : Int) : zqe c k Ay3 Aya (f135 J) d135 Tryz.f135 .root (Af f 1 (.int .i64 n_1)) h = Aet c k J (f 0) n_1 h := by kernel_rfl
theorem A7n (J : Ag6) (n_1 n_6 : Int) : zqe c k Ay3 Aya (f135 J) d135 Tryz.f135 (.l (.r (.l (.r (.r .root))))) (Af (Af f 1 (.int .i64 n_1)) 6 (.int .i64 n_6)) h = Aes c k J (f 0) n_1 (f 5) n_6 h := by kernel_rfl
theorem A7m (J : Ag6) (n_1 n_6 n_7 : Int) : zqe c k Ay3 Aya (f135 J) d135 Tryz.f135 (.l (.l (.r (.l (.l (.r (.l (.l (.r (.l (.r (.r .root)))))))))))) (Af (Af (Af f 1 (.int .i64 n_1)) 6 (.int .i64 n_6)) 7 (.int .i64 n_7)) h = Aer c k J (f 0) n_1 (f 5) n_6 n_7 h := by kernel_rfl
theorem Ban (hc : Cj c) {n : Nat} {a : List AV} (hg : f135 (Zr c k n) 0 (Ac a) h) : zqs 135 a h k :=
 zqw hc Ay3 Tryz.func135 rfl (by kernel_rfl) (by kernel_rfl) k Aya (fun n => f135 (Zr c k n)) (fun L _ _ hl => match L, hl with
  | 0, hl => Bc hl fun _ hl => hl
  | 1, hl => Bc hl fun _ hl => Bc hl fun _ hl => hl
  | 2, hl => Bc hl fun _ hl => Bc hl fun _ hl => Bc hl fun _ hl => hl
  | _ + 3, hl => hl) (fun n => ⟨
  fun f h hl => by
    refine Bb 1 hl fun _ hl => ?_; exact Eq.mpr (A7o ..) hl,
  fun f h hl => by
    refine Bb 1 hl fun _ hl => ?_; refine Bb 6 hl fun _ hl => ?_; exact Eq.mpr (A7n ..) hl,
  fun f h hl => by
    refine Bb 1 hl fun _ hl => ?_; refine Bb 6 hl fun _ hl => ?_; refine Bb 7 hl fun _ hl => ?_; exact Eq.mpr (A7m ..) hl,
  trivial⟩) rfl hg
theorem A7l (J : Axn) (l_1 c_1 : Nat) : zqe c k Bcx Bbq (f136 J) d136 Tryz.f136 .root (Af f 1 (.str l_1 c_1)) h = Aeq c k J (f 0) l_1 c_1 h := by kernel_rfl
theorem Bam (hc : Cj c) {n : Nat} {a : List AV} (hg : f136 (Asp c k n) 0 (Ac a) h) : zqs 136 a h k :=
 zqw hc Bcx Tryz.func136 rfl (by kernel_rfl) (by kernel_rfl) k Bbq (fun n => f136 (Asp c k n)) (fun L _ _ hl => match L, hl with
  | 0, hl => Bj hl fun _ _ hl => hl
  | _ + 1, hl => hl) (fun n => ⟨
  fun f h hl => by
    refine Bi 1 hl fun _ _ hl => ?_; exact Eq.mpr (A7l ..) hl,
  trivial⟩) rfl hg
theorem A7k (J : Axm) (l_0 c_0 : Nat) (n_1 : Int) : zqe c k Bcw Bbp (f160 J) d160 Tryz.f160 .root (Af (Af f 0 (.str l_0 c_0)) 1 (.int .u8 n_1)) h = Aep c k J l_0 c_0 n_1 h := by kernel_rfl
theorem Bal (hc : Cj c) {n : Nat} {a : List AV} (hg : f160 (Aso c k n) 0 (Ac a) h) : zqs 160 a h k :=
 zqw hc Bcw Tryz.func160 rfl (by kernel_rfl) (by kernel_rfl) k Bbp (fun n => f160 (Aso c k n)) (fun L _ _ hl => match L, hl with
  | 0, hl => Bj hl fun _ _ hl => Bc hl fun _ hl => hl
  | _ + 1, hl => hl) (fun n => ⟨
  fun f h hl => by
    refine Bi 0 hl fun _ _ hl => ?_; refine Bb 1 hl fun _ hl => ?_; exact Eq.mpr (A7k ..) hl,
  trivial⟩) rfl hg
theorem A7d (J : Axl) (l_0 c_0 : Nat) (n_1 : Int) : zqe c k Bcv Bbo (f162 J) d162 Tryz.f162 .root (Af (Af f 0 (.str l_0 c_0)) 1 (.int .i32 n_1)) h = Aej c k J l_0 c_0 n_1 h := by kernel_rfl
theorem Baj (hc : Cj c) {n : Nat} {a : List AV} (hg : f162 (Asn c k n) 0 (Ac a) h) : zqs 162 a h k :=
 zqw hc Bcv Tryz.func162 rfl (by kernel_rfl) (by kernel_rfl) k Bbo (fun n => f162 (Asn c k n)) (fun L _ _ hl => match L, hl with
  | 0, hl => Bj hl fun _ _ hl => Bc hl fun _ hl => hl
  | 1, hl => hl
  | 2, hl => hl
  | 3, hl => hl
  | 4, hl => hl
  | 5, hl => hl
  | 6, hl => hl
  | 7, hl => hl
  | 8, hl => hl
  | 9, hl => hl
  | 10, hl => hl
  | 11, hl => hl
  | 12, hl => hl
  | 13, hl => hl
  | 14, hl => hl
  | 15, hl => hl
  | 16, hl => hl
  | 17, hl => hl
  | 18, hl => hl
  | 19, hl => hl
  | 20, hl => hl
  | 21, hl => hl
  | 22, hl => hl
  | _ + 23, hl => hl) (fun n => ⟨
  fun f h hl => by
    refine Bi 0 hl fun _ _ hl => ?_; refine Bb 1 hl fun _ hl => ?_; exact Eq.mpr (A7d ..) hl,
  fun _ _ hl => False.elim hl,
  fun _ _ hl => False.elim hl,
  fun _ _ hl => False.elim hl,
  fun _ _ hl => False.elim hl,
  fun _ _ hl => False.elim hl,
  fun _ _ hl => False.elim hl,
  fun _ _ hl => False.elim hl,
  fun _ _ hl => False.elim hl,
  fun _ _ hl => False.elim hl,
  fun _ _ hl => False.elim hl,
  fun _ _ hl => False.elim hl,
  fun _ _ hl => False.elim hl,
  fun _ _ hl => False.elim hl,
  fun _ _ hl => False.elim hl,
  fun _ _ hl => False.elim hl,
  fun _ _ hl => False.elim hl,
  fun _ _ hl => False.elim hl,
  fun _ _ hl => False.elim hl,
  fun _ _ hl => False.elim hl,
  fun _ _ hl => False.elim hl,
  fun _ _ hl => False.elim hl,
  fun _ _ hl => False.elim hl,
  trivial⟩) rfl hg
theorem A7c (J : Axk) (l_0 c_0 : Nat) (l_1 c_1 : Nat) : zqe c k Bcu Bbn (f163 J) d163 Tryz.f163 .root (Af (Af f 0 (.str l_0 c_0)) 1 (.str l_1 c_1)) h = Aei c k J l_0 c_0 l_1 c_1 h := by kernel_rfl
theorem Bai (hc : Cj c) {n : Nat} {a : List AV} (hg : f163 (Asm c k n) 0 (Ac a) h) : zqs 163 a h k :=
 zqw hc Bcu Tryz.func163 rfl (by kernel_rfl) (by kernel_rfl) k Bbn (fun n => f163 (Asm c k n)) (fun L _ _ hl => match L, hl with
  | 0, hl => Bj hl fun _ _ hl => Bj hl fun _ _ hl => hl
  | _ + 1, hl => hl) (fun n => ⟨
  fun f h hl => by
    refine Bi 0 hl fun _ _ hl => ?_; refine Bi 1 hl fun _ _ hl => ?_; exact Eq.mpr (A7c ..) hl,
  trivial⟩) rfl hg
theorem Bjc (hc : Cj c) {m : Nat} {a : List AV} (hg : Ik env c A3x A25 d168 (Gp env Tryz.f168.results.toList k) m 0 (Ac a) h) : zqs 168 a h k := Jg mixed Js hc A3x Tryz.func168 rfl (by kernel_rfl) (by kernel_rfl) (by kernel_rfl) (by simp [A25]) hg
theorem A67 (J : Axh) (l_0 c_0 : Nat) (l_1 c_1 : Nat) : zqe c k Bcr Bbk (f172 J) d172 Tryz.f172 .root (Af (Af f 0 (.str l_0 c_0)) 1 (.str l_1 c_1)) h = Aed c k J l_0 c_0 l_1 c_1 h := by kernel_rfl
theorem Bae (hc : Cj c) {n : Nat} {a : List AV} (hg : f172 (Asi c k n) 0 (Ac a) h) : zqs 172 a h k :=
 zqw hc Bcr Tryz.func172 rfl (by kernel_rfl) (by kernel_rfl) k Bbk (fun n => f172 (Asi c k n)) (fun L _ _ hl => match L, hl with
  | 0, hl => Bj hl fun _ _ hl => Bj hl fun _ _ hl => hl
  | _ + 1, hl => hl) (fun n => ⟨
  fun f h hl => by
    refine Bi 0 hl fun _ _ hl => ?_; refine Bi 1 hl fun _ _ hl => ?_; exact Eq.mpr (A67 ..) hl,
  trivial⟩) rfl hg
theorem Avj (J : Axg) : zqe c k A3u A22 (f177 J) d177 Tryz.f177 .root f h = Ar1 c k J (f 0) h := by kernel_rfl
theorem Bja (hc : Cj c) {n : Nat} {a : List AV} (hg : f177 (Akv c k n) 0 (Ac a) h) : zqs 177 a h k :=
 zqw hc A3u Tryz.func177 rfl (by kernel_rfl) (by kernel_rfl) k A22 (fun n => f177 (Akv c k n)) (fun L _ _ hl => match L, hl with
  | 0, hl => hl
  | _ + 1, hl => hl) (fun n => ⟨
  fun f h hl => Eq.mpr (Avj ..) hl,
  trivial⟩) rfl hg
theorem A90 (hc : Cj c) {n : Nat} {a : List AV} (hg : f177 (Akv c k n) 0 (Ac a) h) : A2f 177 a h k :=
 A9o hc A3u Tryz.func177 rfl (by kernel_rfl) (by kernel_rfl) k A22 (fun n => f177 (Akv c k n)) (fun L _ _ hl => match L, hl with
  | 0, hl => hl
  | _ + 1, hl => hl) (fun n => ⟨
  fun f h hl => Eq.mpr (Avj ..) hl,
  trivial⟩) rfl hg
theorem A60 (J : Ami) (n_0 : Int) : zqe c k A3s A20 (f181 J) d181 Tryz.f181 .root (Af f 0 (.int .u8 n_0)) h = Ad6 c k J n_0 h := by kernel_rfl
theorem A6z (J : Ami) (n_0 n_4 : Int) : zqe c k A3s A20 (f181 J) d181 Tryz.f181 (.l (.r (.l (.r .root)))) (Af (Af f 0 (.int .u8 n_0)) 4 (.int .i64 n_4)) h = Ad5 c k J n_0 n_4 h := by kernel_rfl
theorem Bac (hc : Cj c) {n : Nat} {a : List AV} (hg : f181 (Ah3 c k n) 0 (Ac a) h) : zqs 181 a h k :=
 zqw hc A3s Tryz.func181 rfl (by kernel_rfl) (by kernel_rfl) k A20 (fun n => f181 (Ah3 c k n)) (fun L _ _ hl => match L, hl with
  | 0, hl => Bc hl fun _ hl => hl
  | 1, hl => Bc hl fun _ hl => Bc hl fun _ hl => hl
  | _ + 2, hl => hl) (fun n => ⟨
  fun f h hl => by
    refine Bb 0 hl fun _ hl => ?_; exact Eq.mpr (A60 ..) hl,
  fun f h hl => by
    refine Bb 0 hl fun _ hl => ?_; refine Bb 4 hl fun _ hl => ?_; exact Eq.mpr (A6z ..) hl,
  trivial⟩) rfl hg
theorem A6y (J : Axe) : zqe c k Bcq Bbj (f182 J) d182 Tryz.f182 .root f h = Ad4 c k J  h := by kernel_rfl
theorem Bab (hc : Cj c) {n : Nat} {a : List AV} (hg : f182 (Ash c k n) 0 (Ac a) h) : zqs 182 a h k :=
 zqw hc Bcq Tryz.func182 rfl (by kernel_rfl) (by kernel_rfl) k Bbj (fun n => f182 (Ash c k n)) (fun L _ _ hl => match L, hl with
  | 0, hl => hl
  | _ + 1, hl => hl) (fun n => ⟨
  fun f h hl => Eq.mpr (A6y ..) hl,
  trivial⟩) rfl hg
theorem Bi8 (hc : Cj c) {m : Nat} {a : List AV} (hg : Ik env c A3q A2y d214 (Gp env Tryz.f214.results.toList k) m 0 (Ac a) h) : zqs 214 a h k := Jg mixed Js hc A3q Tryz.func214 rfl (by kernel_rfl) (by kernel_rfl) (by kernel_rfl) (by simp [A2y]) hg
theorem A6u (J : Axc) (n_1 : Int) : zqe c k Bco Bbh (f215 J) d215 Tryz.f215 .root (Af f 1 (.int .u8 n_1)) h = Ad0 c k J (f 0) n_1 h := by kernel_rfl
theorem A98 (hc : Cj c) {n : Nat} {a : List AV} (hg : f215 (Asf c k n) 0 (Ac a) h) : zqs 215 a h k :=
 zqw hc Bco Tryz.func215 rfl (by kernel_rfl) (by kernel_rfl) k Bbh (fun n => f215 (Asf c k n)) (fun L _ _ hl => match L, hl with
  | 0, hl => Bc hl fun _ hl => hl
  | _ + 1, hl => hl) (fun n => ⟨
  fun f h hl => by
    refine Bb 1 hl fun _ hl => ?_; exact Eq.mpr (A6u ..) hl,
  trivial⟩) rfl hg
theorem A6t (J : Amg) (l_0 c_0 : Nat) : zqe c k A3p A2x (f219 J) d219 Tryz.f219 .root (Af f 0 (.str l_0 c_0)) h = Adz c k J l_0 c_0 (f 1) h := by kernel_rfl
theorem A6s (J : Amg) (l_0 c_0 : Nat) : zqe c k A3p A2x (f219 J) d219 Tryz.f219 (.l (.l (.r .root))) (Af f 0 (.str l_0 c_0)) h = Zi c k J l_0 c_0 (f 1) h := by kernel_rfl
theorem A97 (hc : Cj c) {n : Nat} {a : List AV} (hg : f219 (Ah2 c k n) 0 (Ac a) h) : zqs 219 a h k :=
 zqw hc A3p Tryz.func219 rfl (by kernel_rfl) (by kernel_rfl) k A2x (fun n => f219 (Ah2 c k n)) (fun L _ _ hl => match L, hl with
  | 0, hl => Bj hl fun _ _ hl => hl
  | 1, hl => Bj hl fun _ _ hl => hl
  | _ + 2, hl => hl) (fun n => ⟨
  fun f h hl => by
    refine Bi 0 hl fun _ _ hl => ?_; exact Eq.mpr (A6t ..) hl,
  fun f h hl => by
    refine Bi 0 hl fun _ _ hl => ?_; exact Eq.mpr (A6s ..) hl,
  trivial⟩) rfl hg
theorem Bi6 (hc : Cj c) {m : Nat} {a : List AV} (hg : Ik env c A3n A2v d228 (Gp env Tryz.f228.results.toList k) m 0 (Ac a) h) : zqs 228 a h k := Jg mixed Js hc A3n Tryz.func228 rfl (by kernel_rfl) (by kernel_rfl) (by kernel_rfl) (by simp [A2v]) hg
theorem A6p (J : Aw9) (n_1 : Int) : zqe c k Bcl Bbe (f258 J) d258 Tryz.f258 .root (Af f 1 (.int .i64 n_1)) h = Adw c k J (f 0) n_1 h := by kernel_rfl
theorem A94 (hc : Cj c) {n : Nat} {a : List AV} (hg : f258 (Asc c k n) 0 (Ac a) h) : zqs 258 a h k :=
 zqw hc Bcl Tryz.func258 rfl (by kernel_rfl) (by kernel_rfl) k Bbe (fun n => f258 (Asc c k n)) (fun L _ _ hl => match L, hl with
  | 0, hl => Bc hl fun _ hl => hl
  | _ + 1, hl => hl) (fun n => ⟨
  fun f h hl => by
    refine Bb 1 hl fun _ hl => ?_; exact Eq.mpr (A6p ..) hl,
  trivial⟩) rfl hg
theorem Bi4 (hc : Cj c) {m : Nat} {a : List AV} (hg : Ik env c A3l A2t d263 (Gp env Tryz.f263.results.toList k) m 0 (Ac a) h) : zqs 263 a h k := Jg mixed Js hc A3l Tryz.func263 rfl (by kernel_rfl) (by kernel_rfl) (by kernel_rfl) (by simp [A2t]) hg
theorem A6o (J : Aw8) (l_0 c_0 : Nat) : zqe c k Bck Bbd (f265 J) d265 Tryz.f265 .root (Af f 0 (.str l_0 c_0)) h = Adv c k J l_0 c_0 h := by kernel_rfl
theorem A93 (hc : Cj c) {n : Nat} {a : List AV} (hg : f265 (Asb c k n) 0 (Ac a) h) : zqs 265 a h k :=
 zqw hc Bck Tryz.func265 rfl (by kernel_rfl) (by kernel_rfl) k Bbd (fun n => f265 (Asb c k n)) (fun L _ _ hl => match L, hl with
  | 0, hl => Bj hl fun _ _ hl => hl
  | _ + 1, hl => hl) (fun n => ⟨
  fun f h hl => by
    refine Bi 0 hl fun _ _ hl => ?_; exact Eq.mpr (A6o ..) hl,
  trivial⟩) rfl hg
theorem A6n (J : Qv) (l_1 c_1 : Nat) : zqe c k Ah7 Ahh (f374 J) d374 Tryz.f374 .root (Af f 1 (.str l_1 c_1)) h = Adu c k J (f 0) l_1 c_1 h := by kernel_rfl
theorem A6m (J : Qv) (l_1 c_1 : Nat) (n_5 : Int) (b_6 : Bool) (n_31 n_32 : Int) : zqe c k Ah7 Ahh (f374 J) d374 Tryz.f374 (.l (.r (.l (.r (.l (.r (.r (.r .root)))))))) (Af (Af (Af (Af (Af f 1 (.str l_1 c_1)) 5 (.int .i64 n_5)) 6 (.bool b_6)) 31 (.int .i64 n_31)) 32 (.int .i64 n_32)) h = Zh c k J (f 0) l_1 c_1 n_5 b_6 (f 30) n_31 n_32 h := by kernel_rfl
theorem A6l (J : Qv) (l_1 c_1 : Nat) (n_5 : Int) (b_6 : Bool) (n_10 : Int) : zqe c k Ah7 Ahh (f374 J) d374 Tryz.f374 (.l (.r (.r (.r (.l (.r (.r (.r .root)))))))) (Af (Af (Af (Af f 1 (.str l_1 c_1)) 5 (.int .i64 n_5)) 6 (.bool b_6)) 10 (.int .i64 n_10)) h = Adt c k J (f 0) l_1 c_1 n_5 b_6 n_10 h := by kernel_rfl
theorem A6k (J : Qv) (l_1 c_1 : Nat) (n_5 : Int) (b_6 : Bool) (n_10 : Int) : zqe c k Ah7 Ahh (f374 J) d374 Tryz.f374 (.r (.r (.l (.l (.r (.r (.r (.l (.r (.r (.r .root))))))))))) (Af (Af (Af (Af f 1 (.str l_1 c_1)) 5 (.int .i64 n_5)) 6 (.bool b_6)) 10 (.int .i64 n_10)) h = Zg c k J (f 0) l_1 c_1 n_5 b_6 n_10 h := by kernel_rfl
theorem A6j (J : Qv) (l_1 c_1 : Nat) (n_13 n_14 : Int) : zqe c k Ah7 Ahh (f374 J) d374 Tryz.f374 (.l (.r (.l (.r (.r (.r (.r (.r (.r (.r .root)))))))))) (Af (Af (Af f 1 (.str l_1 c_1)) 13 (.int .i64 n_13)) 14 (.int .i64 n_14)) h = Ads c k J (f 0) l_1 c_1 (f 12) n_13 n_14 h := by kernel_rfl
theorem A6i (J : Qv) (l_1 c_1 : Nat) (n_13 n_14 : Int) : zqe c k Ah7 Ahh (f374 J) d374 Tryz.f374 (.r (.r (.l (.l (.r (.l (.r (.r (.r (.r (.r (.r (.r .root))))))))))))) (Af (Af (Af f 1 (.str l_1 c_1)) 13 (.int .i64 n_13)) 14 (.int .i64 n_14)) h = Adr c k J (f 0) l_1 c_1 (f 12) n_13 n_14 h := by kernel_rfl
theorem A6h (J : Qv) (l_1 c_1 : Nat) (n_5 : Int) (b_6 : Bool) : zqe c k Ah7 Ahh (f374 J) d374 Tryz.f374 (.r (.r (.r (.r .root)))) (Af (Af (Af f 1 (.str l_1 c_1)) 5 (.int .i64 n_5)) 6 (.bool b_6)) h = Adq c k J (f 0) l_1 c_1 n_5 b_6 h := by kernel_rfl
theorem A92 (hc : Cj c) {n : Nat} {a : List AV} (hg : f374 (Km c k n) 0 (Ac a) h) : zqs 374 a h k :=
 zqw hc Ah7 Tryz.func374 rfl (by kernel_rfl) (by kernel_rfl) k Ahh (fun n => f374 (Km c k n)) (fun L _ _ hl => match L, hl with
  | 0, hl => Bj hl fun _ _ hl => hl
  | 1, hl => Bj hl fun _ _ hl => Bc hl fun _ hl => Ja hl fun _ hl => Bc hl fun _ hl => Bc hl fun _ hl => hl
  | 2, hl => Bj hl fun _ _ hl => Bc hl fun _ hl => Ja hl fun _ hl => Bc hl fun _ hl => hl
  | 3, hl => Bj hl fun _ _ hl => Bc hl fun _ hl => Ja hl fun _ hl => Bc hl fun _ hl => hl
  | 4, hl => Bj hl fun _ _ hl => Bc hl fun _ hl => Bc hl fun _ hl => hl
  | 5, hl => Bj hl fun _ _ hl => Bc hl fun _ hl => Bc hl fun _ hl => hl
  | 6, hl => Bj hl fun _ _ hl => Bc hl fun _ hl => Ja hl fun _ hl => hl
  | _ + 7, hl => hl) (fun n => ⟨
  fun f h hl => by
    refine Bi 1 hl fun _ _ hl => ?_; exact Eq.mpr (A6n ..) hl,
  fun f h hl => by
    refine Bi 1 hl fun _ _ hl => ?_; refine Bb 5 hl fun _ hl => ?_; refine Iz 6 hl fun _ hl => ?_; refine Bb 31 hl fun _ hl => ?_; refine Bb 32 hl fun _ hl => ?_; exact Eq.mpr (A6m ..) hl,
  fun f h hl => by
    refine Bi 1 hl fun _ _ hl => ?_; refine Bb 5 hl fun _ hl => ?_; refine Iz 6 hl fun _ hl => ?_; refine Bb 10 hl fun _ hl => ?_; exact Eq.mpr (A6l ..) hl,
  fun f h hl => by
    refine Bi 1 hl fun _ _ hl => ?_; refine Bb 5 hl fun _ hl => ?_; refine Iz 6 hl fun _ hl => ?_; refine Bb 10 hl fun _ hl => ?_; exact Eq.mpr (A6k ..) hl,
  fun f h hl => by
    refine Bi 1 hl fun _ _ hl => ?_; refine Bb 13 hl fun _ hl => ?_; refine Bb 14 hl fun _ hl => ?_; exact Eq.mpr (A6j ..) hl,
  fun f h hl => by
    refine Bi 1 hl fun _ _ hl => ?_; refine Bb 13 hl fun _ hl => ?_; refine Bb 14 hl fun _ hl => ?_; exact Eq.mpr (A6i ..) hl,
  fun f h hl => by
    refine Bi 1 hl fun _ _ hl => ?_; refine Bb 5 hl fun _ hl => ?_; refine Iz 6 hl fun _ hl => ?_; exact Eq.mpr (A6h ..) hl,
  trivial⟩) rfl hg
theorem A6g (J : Aw7) (l_0 c_0 : Nat) (l_1 c_1 : Nat) : zqe c k Bcj Bbc (f376 J) d376 Tryz.f376 .root (Af (Af f 0 (.str l_0 c_0)) 1 (.str l_1 c_1)) h = Adp c k J l_0 c_0 l_1 c_1 h := by kernel_rfl
theorem A91 (hc : Cj c) {n : Nat} {a : List AV} (hg : f376 (Asa c k n) 0 (Ac a) h) : zqs 376 a h k :=
 zqw hc Bcj Tryz.func376 rfl (by kernel_rfl) (by kernel_rfl) k Bbc (fun n => f376 (Asa c k n)) (fun L _ _ hl => match L, hl with
  | 0, hl => Bj hl fun _ _ hl => Bj hl fun _ _ hl => hl
  | 1, hl => hl
  | _ + 2, hl => hl) (fun n => ⟨
  fun f h hl => by
    refine Bi 0 hl fun _ _ hl => ?_; refine Bi 1 hl fun _ _ hl => ?_; exact Eq.mpr (A6g ..) hl,
  fun _ _ hl => False.elim hl,
  trivial⟩) rfl hg
end Go.Den
