/-
 A part of the proof.
-/
import Derived.Test.YtcnmehbkpaoolaaGreatDoorLexq
namespace Go.Lx
theorem Kn {x : UInt8} (h : (Bd x || isDigit x) = true) : x ≠ 34 ∧ x ≠ 39 ∧ x ≠ 32 ∧ x ≠ 10 ∧ x ≠ 47 ∧ Fg x = false := by
 refine ⟨?_, ?_, ?_, ?_, ?_, ?_⟩
 · rintro rfl; exact absurd h (by decide)
 · rintro rfl; exact absurd h (by decide)
 · rintro rfl; exact absurd h (by decide)
 · rintro rfl; exact absurd h (by decide)
 · rintro rfl; exact absurd h (by decide)
 · simp only [Bd, isDigit, Bool.or_eq_true, Bool.and_eq_true, decide_eq_true_eq] at h
   simp only [Fg, Bool.or_eq_false_iff, Bool.and_eq_false_iff, decide_eq_false_iff_not]
   omega
theorem Ay5 {x : UInt8} {w r : B8} (hx : Bd x = true) (hw : ∀ y ∈ w, (Bd y || isDigit y) = true) : Afq (x :: (w ++ 32 :: r)) = none := by
 have h0 := Kn (x := x) (by rw [hx]; rfl)
 have e0 : at0 (x :: (w ++ 32 :: r)) 0 = x := rfl
 unfold Afq
 rw [e0, if_neg (fun e => e.elim h0.1 h0.2.1)]
 cases w with
 | nil =>
  have e1 : at0 (x :: ([] ++ 32 :: r)) 1 = 32 := rfl
  rw [e1, if_neg (fun e => absurd e.2.1 (by decide)), if_neg (fun e => absurd e.2 (by decide))]
 | cons y w =>
  have h1 := Kn (hw y (by simp))
  have e1 : at0 (x :: (y :: w ++ 32 :: r)) 1 = y := rfl
  rw [e1, if_neg (fun e => ?_), if_neg (fun e => e.2.elim h1.1 h1.2.1)]
  cases w with
  | nil =>
   have e2 : at0 (x :: ([y] ++ 32 :: r)) 2 = 32 := rfl
   rw [e2] at e
   exact absurd e.2.2 (by decide)
  | cons z w =>
   have e2 : at0 (x :: (y :: z :: w ++ 32 :: r)) 2 = z := rfl
   rw [e2] at e
   exact (Kn (hw z (by simp))).1 e.2.2
theorem A4x {w r : B8} (hw : ∀ y ∈ w, (Bd y || isDigit y) = true) : idL (w ++ 32 :: r) = w.length := by
 unfold idL
 induction w with
 | nil => rfl
 | cons y w ih =>
  rw [List.cons_append, List.takeWhile_cons, if_pos (hw y (by simp)), List.length_cons, ih (fun z hz => hw z (by simp [hz])), List.length_cons]
theorem Anx {x : UInt8} {w r : B8} (hx : Bd x = true) (hw : ∀ y ∈ w, (Bd y || isDigit y) = true) : Fv (x :: (w ++ 32 :: r)) = (1, 1 + w.length, false) := by
 unfold Fv
 rw [Ay5 hx hw]
 simp only []
 unfold Ry
 have e0 : at0 (x :: (w ++ 32 :: r)) 0 = x := rfl
 rw [e0, if_pos hx]
 show (1, 1 + idL (w ++ 32 :: r), false) = _
 rw [A4x hw]
theorem Aor {x : UInt8} {r : B8} (hx : (Bd x || isDigit x) = true) : Rp (x :: r) = none := by
 unfold Rp
 exact if_pos (Kn hx).2.2.2.2.1
theorem Ay2 {x : UInt8} {w r : B8} (hx : Bd x = true) (hw : ∀ y ∈ w, (Bd y || isDigit y) = true) (k : Nat) (sp : Bool) : Pv (k + 2) (x :: (w ++ 32 :: r)) sp = (1, x :: w, sp) :: Pv k r true := by
 have h0 : (Bd x || isDigit x) = true := by rw [hx]; rfl
 have h1 := Kn h0
 rw [Pv]
 rw [if_neg h1.2.2.2.1, if_neg (by rw [h1.2.2.2.2.2]; decide), Aor h0]
 simp only [Anx hx hw]
 have e1 : (x :: (w ++ 32 :: r)).take (1 + w.length) = x :: w := by
  rw [Nat.add_comm, List.take_succ_cons, List.take_left']; rfl
 have e2 : (x :: (w ++ 32 :: r)).drop (1 + w.length) = 32 :: r := by
  rw [Nat.add_comm, List.drop_succ_cons, List.drop_left']; rfl
 rw [e1, e2, Pv]
 rw [if_neg (by decide), if_pos (by decide)]
end Go.Lx
