/-
 Proof.
-/
import Derived.Test.YtcnmehbkpaoolaaGreatDoorLxd
import Derived.Test.YtcnmehbkpaoolaaGreatDoorIsk
noncomputable section
namespace Go.Den
open Go.RowKit
open Go.Lx (Sw Qp Aae Mm Gz)
set_option maxRecDepth 100000
abbrev kTn : KV := fun v _ => v = .bool true
theorem Ao5 {h : H} (he : Jj h) {k : KV} (hk : k (.bool true) h) : W1 (.func 15) [] h k := Acg c15 rfl rfl he hk
def Itz (h : H) (v : AV) (l : List Int) : Prop := (v = .Ad ∧ l = []) ∨ ∃ b c m, v = .slice b 0 l.length 1 false ∧ b.nat < h.next.nat ∧ h.at b = .ext c m ∧ l.length ≤ m ∧ ∀ i (hi : i < l.length), c i = .int .i64 l[i]
theorem Itz.len {h : H} {v : AV} {l : List Int} (hb : Itz h v l) {K : Nat → Prop} : Dy v K = K l.length := by
 rcases hb with ⟨rfl, rfl⟩ | ⟨b, c, m, rfl, _⟩ <;> rfl
theorem Itz.get {h : H} {v : AV} {l : List Int} (hb : Itz h v l) {i : Nat} (hi : i < l.length) {K : AV → Prop} (hk : K (.int .i64 l[i])) : Cf 1 i v fun v' => Go.Den.ld1 v' h K := by
 rcases hb with ⟨_, rfl⟩ | ⟨b, c, m, rfl, _, h1, h2, h3⟩
 · exact absurd hi (Nat.not_lt_zero _)
 · refine Rm hi ?_
   rw [Nat.zero_add, Nat.mul_one]
   refine A4n h1 (by omega) ?_
   rw [h3 i hi]; exact hk
theorem Itz.ext {h h' : H} {v : AV} {l : List Int} (hb : Itz h v l) (x : Exh h h') : Itz h' v l := by
 rcases hb with ⟨rfl, rfl⟩ | ⟨b, c, m, rfl, h0, h1, h2⟩
 · exact .inl ⟨rfl, rfl⟩
 · exact .inr ⟨b, c, m, rfl, Nat.lt_of_lt_of_le h0 x.1, by rw [x.2 b h0]; exact h1, h2⟩
def itN : List (List UInt8) := [[49], [48, 120, 49, 70], [48, 56], [49, 46, 53], [49, 101], [39, 97, 39], [39, 39], [48, 120, 49, 112, 50], [49, 117, 117], [39, 92, 113, 39], [49, 46], [117, 56, 39, 97, 39]]
def kdN : List Int := [3, 3, 0, 4, 0, 5, 0, 4, 0, 0, 4, -1]
def tkN : List (List Lh) := [[(2, [49])], [(2, [48, 120, 49, 70])], [(2, [48, 56])], [(2, [49, 46, 53])], [(2, [49, 101])], [(3, [39, 97, 39])], [(3, [39, 39])], [(2, [48, 120, 49, 112, 50])], [(2, [49, 117, 117])], [(3, [39, 92, 113, 39])], [(2, [49, 46])], [(1, [117, 56]), (3, [39, 97, 39])]]
def wtN : List (List Nat) := [[3], [3], [], [4], [], [5], [], [4], [], [], [4], [1, 5]]
def bdN : List Nat := [0, 0, 1, 0, 1, 0, 1, 0, 1, 1, 0, 0]
def Gj (p : Lh) : Option (Nat × List UInt8) := Acu (p.1, p.2, false)
theorem Bdm (r : List UInt8) : Gz (32 :: r) = 0 := by cases r <;> rfl
theorem Apx (x : UInt8) (X : List UInt8) (hx : x ∈ Gl) (hX : ∀ y ∈ X, Go.Lx.Apy y = true) {r : List UInt8} {ts : List Lh} (h : Lxs (32 :: r) ts) : Lxs (x :: (X ++ 32 :: r)) ((2, x :: X) :: ts) := h.num hx hX (by show Go.Lx.Ab6 32 = true; decide)
theorem Aib {x : UInt8} {s : List UInt8} {n : Nat} (hx : x ∈ Gl) (hn : Go.Lx.Lp (x :: s) = n) (h0 : 0 < n) : Go.Lx.Gw (x :: s) = (2, n, false) := by
 have hl : Go.Lx.Cs x = false := by
  have : ∀ y ∈ Gl, Go.Lx.Cs y = false := by decide
  exact this x hx
 unfold Go.Lx.Gw
 rw [Aiq hx]
 simp only []
 unfold Mm
 rw [show Go.Lx.at0 (x :: s) 0 = x from rfl, hl, if_neg (by simp), hn, if_pos h0]
theorem Bke {r : List UInt8} {ts : List Lh} (h' : Lxs (32 :: r) ts) : Lxs (itN[0] ++ 32 :: r) (tkN[0] ++ ts) := by
 exact Apx 49 [] (by decide) (by decide) h'
theorem Bkd {r : List UInt8} {ts : List Lh} (h' : Lxs (32 :: r) ts) : Lxs (itN[1] ++ 32 :: r) (tkN[1] ++ ts) := by
 exact Apx 48 [120, 49, 70] (by decide) (by decide) h'
theorem Bkc {r : List UInt8} {ts : List Lh} (h' : Lxs (32 :: r) ts) : Lxs (itN[2] ++ 32 :: r) (tkN[2] ++ ts) := by
 exact Apx 48 [56] (by decide) (by decide) h'
theorem Bkb {r : List UInt8} {ts : List Lh} (h' : Lxs (32 :: r) ts) : Lxs (itN[3] ++ 32 :: r) (tkN[3] ++ ts) := by
 exact Apx 49 [46, 53] (by decide) (by decide) h'
theorem Bka {r : List UInt8} {ts : List Lh} (h' : Lxs (32 :: r) ts) : Lxs (itN[4] ++ 32 :: r) (tkN[4] ++ ts) := by
 refine h'.tok (x := 49) (w := [101]) (by decide) (by decide) (by kernel_rfl) ?_
 have e : Go.Lx.Lp (49 :: 101 :: 32 :: (r ++ [10])) = 1 + (1 + Gz (32 :: (r ++ [10]))) := by kernel_rfl
 rw [Bdm] at e
 have e4 := Aib (x := 49) (n := 2) (s := 101 :: 32 :: (r ++ [10])) (by decide) e (by decide)
 simpa using e4
theorem Bj9 {r : List UInt8} {ts : List Lh} (h' : Lxs (32 :: r) ts) : Lxs (itN[5] ++ 32 :: r) (tkN[5] ++ ts) := by
 exact h'.tok (x := 39) (w := [97, 39]) (by decide) (by decide) (by kernel_rfl) (by kernel_rfl)
theorem Bj8 {r : List UInt8} {ts : List Lh} (h' : Lxs (32 :: r) ts) : Lxs (itN[6] ++ 32 :: r) (tkN[6] ++ ts) := by
 exact h'.tok (x := 39) (w := [39]) (by decide) (by decide) (by kernel_rfl) (by kernel_rfl)
theorem Bj7 {r : List UInt8} {ts : List Lh} (h' : Lxs (32 :: r) ts) : Lxs (itN[7] ++ 32 :: r) (tkN[7] ++ ts) := by
 refine h'.tok (x := 48) (w := [120, 49, 112, 50]) (by decide) (by decide) (by kernel_rfl) ?_
 have e : Go.Lx.Lp (48 :: 120 :: 49 :: 112 :: 50 :: 32 :: (r ++ [10])) = 1 + (1 + (1 + (1 + (1 + Gz (32 :: (r ++ [10])))))) := by kernel_rfl
 rw [Bdm] at e
 have e4 := Aib (x := 48) (n := 5) (s := 120 :: 49 :: 112 :: 50 :: 32 :: (r ++ [10])) (by decide) e (by decide)
 simpa using e4
theorem Bj6 {r : List UInt8} {ts : List Lh} (h' : Lxs (32 :: r) ts) : Lxs (itN[8] ++ 32 :: r) (tkN[8] ++ ts) := by
 exact Apx 49 [117, 117] (by decide) (by decide) h'
theorem Bj5 {r : List UInt8} {ts : List Lh} (h' : Lxs (32 :: r) ts) : Lxs (itN[9] ++ 32 :: r) (tkN[9] ++ ts) := by
 exact h'.tok (x := 39) (w := [92, 113, 39]) (by decide) (by decide) (by kernel_rfl) (by kernel_rfl)
theorem Bdq {r : List UInt8} {ts : List Lh} (h' : Lxs (32 :: r) ts) : Lxs (itN[10] ++ 32 :: r) (tkN[10] ++ ts) := by
 exact Apx 49 [46] (by decide) (by decide) h'
theorem Bdp {r : List UInt8} {ts : List Lh} (h' : Lxs (32 :: r) ts) : Lxs (itN[11] ++ 32 :: r) (tkN[11] ++ ts) := by
 exact (h'.tok (x := 39) (w := [97, 39]) (by decide) (by decide) (by kernel_rfl) (by kernel_rfl)).tok (x := 117) (w := [56]) (by decide) (by decide) (by kernel_rfl) (by kernel_rfl)
theorem lxN {r : List UInt8} {ts : List Lh} (h : Lxs r ts) : ∀ (j : Nat) (hj : j < 12), Lxs (itN[j]'hj ++ 32 :: r) (tkN[j]'hj ++ ts) := by
 have h' := h.blank
 intro j hj
 match j, hj with
 | 0, _ => exact Bke h'
 | 1, _ => exact Bkd h'
 | 2, _ => exact Bkc h'
 | 3, _ => exact Bkb h'
 | 4, _ => exact Bka h'
 | 5, _ => exact Bj9 h'
 | 6, _ => exact Bj8 h'
 | 7, _ => exact Bj7 h'
 | 8, _ => exact Bj6 h'
 | 9, _ => exact Bj5 h'
 | 10, _ => exact Bdq h'
 | 11, _ => exact Bdp h'
theorem kcN : ∀ (j : Nat) (hj : j < 12), (tkN[j]'hj).filterMap Gj = (tkN[j]'hj).filterMap Gj ∧ ((tkN[j]'hj).filterMap Gj).map Prod.fst = wtN[j]'hj ∧ (tkN[j]'hj).countP (fun p => (Gj p).isNone) = bdN[j]'hj := by
 have nums : ∀ (t : List UInt8) (o : Option (Nat × List UInt8)), (o = if (Ak1 t).isSome = true then some (3, t) else if Td t = true then some (4, t) else none) → Gj (2, t) = o := fun t o ho => by
  rw [ho]; rfl
 have chrs : ∀ (t : List UInt8) (o : Option (Nat × List UInt8)), (o = if (Sk t).isSome = true then some (5, t) else none) → Gj (3, t) = o := fun t o ho => by
  rw [ho]; rfl
 have k0 : Gj (2, [49]) = some (3, [49]) := nums _ _ (by decide)
 have k1 : Gj (2, [48, 120, 49, 70]) = some (3, [48, 120, 49, 70]) := nums _ _ (by decide)
 have k2 : Gj (2, [48, 56]) = none := nums _ _ (by decide)
 have k3 : Gj (2, [49, 46, 53]) = some (4, [49, 46, 53]) := nums _ _ (by decide)
 have k4 : Gj (2, [49, 101]) = none := nums _ _ (by decide)
 have k5 : Gj (3, [39, 97, 39]) = some (5, [39, 97, 39]) := chrs _ _ (by kernel_rfl)
 have k6 : Gj (3, [39, 39]) = none := chrs _ _ (by kernel_rfl)
 have k7 : Gj (2, [48, 120, 49, 112, 50]) = some (4, [48, 120, 49, 112, 50]) := nums _ _ (by decide)
 have k8 : Gj (2, [49, 117, 117]) = none := nums _ _ (by decide)
 have k9 : Gj (3, [39, 92, 113, 39]) = none := chrs _ _ (by kernel_rfl)
 have k10 : Gj (2, [49, 46]) = some (4, [49, 46]) := nums _ _ (by decide)
 have k11 : Gj (1, [117, 56]) = some (1, [117, 56]) := by
  show (if ([117, 56] : List UInt8) ∈ kws then some (2, [117, 56]) else some (1, [117, 56])) = some (1, ([117, 56] : List UInt8))
  rw [if_neg (by decide)]
 intro j hj
 match j, hj with
 | 0, _ => refine ⟨rfl, ?_, ?_⟩ <;> simp [tkN, wtN, bdN, k0]
 | 1, _ => refine ⟨rfl, ?_, ?_⟩ <;> simp [tkN, wtN, bdN, k1]
 | 2, _ => refine ⟨rfl, ?_, ?_⟩ <;> simp [tkN, wtN, bdN, k2]
 | 3, _ => refine ⟨rfl, ?_, ?_⟩ <;> simp [tkN, wtN, bdN, k3]
 | 4, _ => refine ⟨rfl, ?_, ?_⟩ <;> simp [tkN, wtN, bdN, k4]
 | 5, _ => refine ⟨rfl, ?_, ?_⟩ <;> simp [tkN, wtN, bdN, k5]
 | 6, _ => refine ⟨rfl, ?_, ?_⟩ <;> simp [tkN, wtN, bdN, k6]
 | 7, _ => refine ⟨rfl, ?_, ?_⟩ <;> simp [tkN, wtN, bdN, k7]
 | 8, _ => refine ⟨rfl, ?_, ?_⟩ <;> simp [tkN, wtN, bdN, k8]
 | 9, _ => refine ⟨rfl, ?_, ?_⟩ <;> simp [tkN, wtN, bdN, k9]
 | 10, _ => refine ⟨rfl, ?_, ?_⟩ <;> simp [tkN, wtN, bdN, k10]
 | 11, _ => refine ⟨rfl, ?_, ?_⟩ <;> simp [tkN, wtN, bdN, k11, k5]
def rkN (k : Int) : Nat := (c23 k (m := 12) (by decide) (by decide)).choose
theorem Kc (k : Int) : rkN k < 12 := (c23 k (m := 12) (by decide) (by decide)).choose_spec.1
theorem Bcb (k : Int) : Pure PP G h0 23 [.int .i64 k, .int .i64 (Int.ofNat 12)] (.int .i64 (Int.ofNat (rkN k))) := (c23 k (m := 12) (by decide) (by decide)).choose_spec.2
def txN (l : List Int) : List UInt8 := l.flatMap fun k => itN[rkN k]'(Kc k) ++ [32]
def toN (l : List Int) : List Lh := l.flatMap fun k => tkN[rkN k]'(Kc k)
def waN (l : List Int) : List Nat := l.flatMap fun k => wtN[rkN k]'(Kc k)
def baN (l : List Int) : Nat := (l.map fun k => bdN[rkN k]'(Kc k)).sum
theorem Ats : ∀ l : List Int, Lxs (txN l) (toN l)
 | [] => Lxs.nil
 | k :: l => by
  have := lxN (Ats l) (rkN k) (Kc k)
  unfold txN toN
  rw [List.flatMap_cons, List.flatMap_cons, List.append_assoc]
  exact this
theorem Ur : ∀ l : List Int, ((toN l).filterMap Gj).map Prod.fst = waN l ∧ (toN l).countP (fun p => (Gj p).isNone) = baN l
 | [] => ⟨rfl, rfl⟩
 | k :: l => by
  obtain ⟨a, b⟩ := Ur l
  obtain ⟨_, c, d⟩ := kcN (rkN k) (Kc k)
  unfold toN waN baN at *
  rw [List.flatMap_cons, List.flatMap_cons, List.filterMap_append, List.map_append, List.countP_append, List.map_cons, List.sum_cons, a, b, c, d]
  exact ⟨rfl, rfl⟩
theorem Aua : ∀ (j : Nat) (hj : j < 12), (itN[j]'hj).length ≤ 5 ∧ (∀ x ∈ itN[j]'hj, x ≠ 10 ∧ x ≠ 63) ∧ (tkN[j]'hj).length ≤ 2 ∧ (∀ t ∈ tkN[j]'hj, t.2.length ≤ 5 ∧ t.1 ≠ 4 ∧ t.1 ≠ 7) ∧ (wtN[j]'hj).length ≤ 2 ∧ bdN[j]'hj ≤ 1 := by
 have : ∀ j : Fin 12, (itN[j.1]'j.2).length ≤ 5 ∧ (∀ x ∈ itN[j.1]'j.2, x ≠ 10 ∧ x ≠ 63) ∧ (tkN[j.1]'j.2).length ≤ 2 ∧ (∀ t ∈ tkN[j.1]'j.2, t.2.length ≤ 5 ∧ t.1 ≠ 4 ∧ t.1 ≠ 7) ∧ (wtN[j.1]'j.2).length ≤ 2 ∧ bdN[j.1]'j.2 ≤ 1 := by decide
 exact fun j hj => this ⟨j, hj⟩
theorem Ake : ∀ l : List Int, (txN l).length ≤ 6 * l.length ∧ (toN l).length ≤ 2 * l.length ∧ (waN l).length ≤ 2 * l.length ∧ baN l ≤ l.length
 | [] => ⟨Nat.le_refl _, Nat.le_refl _, Nat.le_refl _, Nat.le_refl _⟩
 | k :: l => by
  obtain ⟨a, b, c, d⟩ := Ake l
  obtain ⟨a', _, b', _, c', d'⟩ := Aua (rkN k) (Kc k)
  unfold txN toN waN baN at *
  rw [List.flatMap_cons, List.flatMap_cons, List.flatMap_cons, List.map_cons, List.sum_cons]
  simp only [List.length_append, List.length_cons, List.length_nil]
  omega
theorem A0z : ∀ l : List Int, (∀ x ∈ txN l, x ≠ 10 ∧ x ≠ 63) ∧ (∀ t ∈ toN l, t.2.length ≤ 5 ∧ t.1 ≠ 4 ∧ t.1 ≠ 7)
 | [] => ⟨fun x hx => absurd hx (by simp [txN]), fun x hx => absurd hx (by simp [toN])⟩
 | k :: l => by
  obtain ⟨a, b⟩ := A0z l
  obtain ⟨_, a', _, b', _⟩ := Aua (rkN k) (Kc k)
  unfold txN toN at *
  rw [List.flatMap_cons, List.flatMap_cons]
  refine ⟨fun x hx => ?_, fun t ht => ?_⟩
  · rcases List.mem_append.1 hx with hx | hx
    · rcases List.mem_append.1 hx with hx | hx
      · exact a' x hx
      · simp only [List.mem_singleton] at hx; subst hx; decide
    · exact a x hx
  · rcases List.mem_append.1 ht with ht | ht
    · exact b' t ht
    · exact b t ht
theorem Apg {l : List Int} {i : Nat} (h : i < l.length) : txN (l.take (i + 1)) = txN (l.take i) ++ (itN[rkN l[i]]'(Kc _) ++ [32]) ∧ waN (l.take (i + 1)) = waN (l.take i) ++ wtN[rkN l[i]]'(Kc _) ∧ baN (l.take (i + 1)) = baN (l.take i) + bdN[rkN l[i]]'(Kc _) := by
 rw [List.take_succ_eq_append_getElem h]
 unfold txN waN baN
 rw [List.flatMap_append, List.flatMap_append, List.map_append, List.sum_append]
 refine ⟨?_, ?_, ?_⟩
 · rw [List.flatMap_cons, List.flatMap_nil, List.append_nil]
 · rw [List.flatMap_cons, List.flatMap_nil, List.append_nil]
 · rw [List.map_cons, List.map_nil, List.sum_cons, List.sum_nil, Nat.add_zero]
end Go.Den
