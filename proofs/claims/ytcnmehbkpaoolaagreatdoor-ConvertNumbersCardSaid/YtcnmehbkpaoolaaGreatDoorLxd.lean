/-
 Proof.
-/
import Derived.Test.YtcnmehbkpaoolaaGreatDoorEvr
import Derived.Test.YtcnmehbkpaoolaaGreatDoorPrem
import Derived.Test.YtcnmehbkpaoolaaGreatDoorToks
namespace Go.Den
open Go.RowKit
open Go.Lx (Sw Qp Aae Mm Gz Lp Afr at0)
set_option maxRecDepth 100000
def Lxs (s : List UInt8) (ts : List Lh) : Prop := ∀ k sp, s.length < k → (Sw k (s ++ [10]) sp).map (fun b => (b.1, b.2.1)) = ts ∧ Wg k (s ++ [10]) = true
theorem Lxs.nil : Lxs [] [] := fun k sp h => by
 cases k with
 | zero => exact absurd h (Nat.not_lt_zero _)
 | succ k => exact ⟨by show (Sw (k + 1) [10] sp).map _ = []; rw [Sw, if_pos rfl]; rfl, by show Wg (k + 1) [10] = true; rw [Wg, if_pos rfl]; rfl⟩
theorem Lxs.blank {r : List UInt8} {ts : List Lh} (h : Lxs r ts) : Lxs (32 :: r) ts := fun k sp hk => by
 cases k with
 | zero => exact absurd hk (Nat.not_lt_zero _)
 | succ k =>
  have := h k true (by simp only [List.length_cons] at hk; omega)
  refine ⟨?_, ?_⟩
  · show (Sw (k + 1) (32 :: (r ++ [10])) sp).map _ = ts
    rw [Sw, if_neg (by decide), if_pos (by decide)]; exact this.1
  · show Wg (k + 1) (32 :: (r ++ [10])) = true
    rw [Wg, if_neg (by decide), if_pos (by decide)]; exact this.2
theorem Lxs.tok {x : UInt8} {w r : List UInt8} {ts : List Lh} {kd : Nat} (h : Lxs r ts) (h10 : x ≠ 10) (hw : Go.Lx.Fl x = false) (hc : Qp (x :: (w ++ (r ++ [10]))) = none) (hn : Go.Lx.Gw (x :: (w ++ (r ++ [10]))) = (kd, 1 + w.length, false)) : Lxs (x :: (w ++ r)) ((kd, x :: w) :: ts) := fun k sp hk => by
 cases k with
 | zero => exact absurd hk (Nat.not_lt_zero _)
 | succ k =>
  have := h k false (by simp only [List.length_cons, List.length_append] at hk; omega)
  have e0 : x :: (w ++ r) ++ [10] = x :: (w ++ (r ++ [10])) := by simp
  have e1 : (x :: (w ++ (r ++ [10]))).take (1 + w.length) = x :: w := by
   rw [Nat.add_comm, List.take_succ_cons, List.take_left']; rfl
  have e2 : (x :: (w ++ (r ++ [10]))).drop (1 + w.length) = r ++ [10] := by
   rw [Nat.add_comm, List.drop_succ_cons, List.drop_left']; rfl
  refine ⟨?_, ?_⟩
  · rw [e0, Sw, if_neg h10, if_neg (by rw [hw]; simp), hc]
    simp only [hn, e1, e2, List.map_cons]
    rw [this.1]
  · rw [e0, Wg, if_neg h10, if_neg (by rw [show Fl x = false from hw]; simp), hc]
    simp only [hn, e2, Bool.not_false, Bool.true_and]
    exact this.2
theorem Az4 {x : UInt8} (h : x ∈ Gl) : Go.Lx.isDigit x = true ∧ Go.Lx.Apy x = true ∧ x ≠ 10 ∧ Go.Lx.Fl x = false ∧ x ≠ 47 := by
 have : ∀ y ∈ Gl, Go.Lx.isDigit y = true ∧ Go.Lx.Apy y = true ∧ y ≠ 10 ∧ Go.Lx.Fl y = false ∧ y ≠ 47 := by decide
 exact this x h
theorem Aiq {x : UInt8} {r : List UInt8} (h : x ∈ Gl) : Aae (x :: r) = none := by
 have e0 : at0 (x :: r) 0 = x := rfl
 have : ∀ y ∈ Gl, y ≠ 34 ∧ y ≠ 39 ∧ y ≠ 117 ∧ y ≠ 76 ∧ y ≠ 85 := by decide
 obtain ⟨a, b, c, d, e⟩ := this x h
 unfold Aae
 rw [e0, if_neg (by simp [a, b]), if_neg (by simp [c]), if_neg (by simp [c, d, e])]
def Bmb (r : List UInt8) : Prop := match r with
 | [] => True
 | c :: _ => Go.Lx.Ab6 c = true
theorem Lxs.num {X r : List UInt8} {ts : List Lh} {x : UInt8} (h : Lxs r ts) (hx : x ∈ Gl) (hX : ∀ y ∈ X, Go.Lx.Apy y = true) (hr : Bmb r) : Lxs (x :: (X ++ r)) ((2, x :: X) :: ts) := by
 obtain ⟨d1, d2, d3, d4, d5⟩ := Az4 hx
 refine h.tok d3 d4 ?_ ?_
 · unfold Qp
   exact if_pos d5
 · obtain ⟨c, r', hc, he⟩ : ∃ c r', r ++ [10] = c :: r' ∧ Go.Lx.Ab6 c = true := by
    cases r with
    | nil => exact ⟨10, [], rfl, by decide⟩
    | cons c r => exact ⟨c, r ++ [10], rfl, hr⟩
   rw [hc]
   unfold Go.Lx.Gw
   rw [Aiq hx]
   simp only []
   unfold Mm
   have e0 : at0 (x :: (X ++ c :: r')) 0 = x := rfl
   have hl : Go.Lx.Cs x = false := by
    have : ∀ y ∈ Gl, Go.Lx.Cs y = false := by decide
    exact this x hx
   have hn0 : Lp (x :: (X ++ c :: r')) = 1 + X.length := by
    unfold Lp
    rw [e0, d1, Bool.true_or, if_pos rfl]
    show 1 + Gz (X ++ c :: r') = _
    rw [Go.Lx.Acl X c r' hX he]
   rw [e0, hl, if_neg (by simp), hn0, if_pos (by omega)]
theorem An8 : ∀ {s : List UInt8}, (∀ x ∈ s, x ≠ 63) → Go.Lx.Ap0 s = true
 | [], _ => rfl
 | [_], _ => rfl
 | a :: b :: r, h => by
  show (!(a == 63 && b == 63) && Go.Lx.Ap0 (b :: r)) = true
  rw [An8 (fun x hx => h x (by simp only [List.mem_cons] at hx ⊢; exact .inr hx)), Bool.and_true]
  rw [show (a == 63) = false from beq_eq_false_iff_ne.2 (h a (by simp))]; rfl
end Go.Den
