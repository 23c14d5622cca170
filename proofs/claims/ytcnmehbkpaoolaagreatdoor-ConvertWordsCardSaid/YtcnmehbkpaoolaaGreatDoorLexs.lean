/-
 A part of the proof.
-/
import Derived.Test.YtcnmehbkpaoolaaGreatDoorLexq
namespace Go.Lx
def rnF : Nat → B8 → List Rn
 | _, [] => []
 | i, x :: s => (x, i, i + 1) :: rnF (i + 1) s
theorem Aou : ∀ (s : B8) (i : Nat), bts (rnF i s) = s
 | [], _ => rfl
 | x :: s, i => by show x :: bts (rnF (i + 1) s) = _; rw [Aou s (i + 1)]
def Ako : B8 → Bool
 | a :: b :: r => !(a == 63 && b == 63) && Ako (b :: r)
 | _ => true
theorem Ab9 : ∀ (s : B8) (i : Nat), Ako s = true → Cw i s = rnF i s
 | [], _, _ => rfl
 | [_], _, _ => rfl
 | [_, _], _, _ => rfl
 | a :: b :: c :: r, i, h => by
  have h : (!(a == 63 && b == 63) && Ako (b :: c :: r)) = true := h
  simp only [Bool.and_eq_true, Bool.not_eq_true', Bool.and_eq_false_iff, beq_eq_false_iff_ne] at h
  have hn : ¬ (a = 63 ∧ b = 63) := fun e => h.1.elim (fun h1 => h1 e.1) (fun h1 => h1 e.2)
  unfold Cw
  rw [if_neg hn, Ab9 (b :: c :: r) (i + 1) h.2]
  rfl
theorem Amc : ∀ l : List Rn, (∀ x ∈ l, x.1 ≠ 10) → Hy l = l
 | [], _ => rfl
 | [_], _ => rfl
 | x :: y :: r, h => by
  unfold Hy
  rw [if_neg (fun e => h y (by simp) e.2), Amc (y :: r) fun z hz => h z (by simp only [List.mem_cons] at hz ⊢; exact .inr hz)]
theorem Aho {s : B8} (h : ∀ x ∈ s, x ≠ 10) : ∀ i, ∀ x ∈ rnF i s, x.1 ≠ 10 := by
 induction s with
 | nil => intro i x hx; cases hx
 | cons a s ih =>
  intro i x hx
  rcases List.mem_cons.1 hx with rfl | hx
  · exact h a (by simp)
  · exact ih (fun y hy => h y (by simp [hy])) _ _ hx
theorem Ajf {s : B8} (h0 : s ≠ []) (h10 : ∀ x ∈ s, x ≠ 10) (hq : Ako s = true) : Eu s = rnF 0 s ++ [(10, s.length, s.length)] := by
 unfold Eu
 rw [Ab9 s 0 hq, Amc _ (Aho h10 0), if_pos]
 refine ⟨h0, fun e => ?_⟩
 cases hl : (rnF 0 s).getLast? with
 | none => rw [hl] at e; cases e
 | some x =>
  rw [hl] at e
  have : x.1 = 10 := by simpa using e
  exact Aho h10 0 x (List.mem_of_getLast? hl) this
end Go.Lx
