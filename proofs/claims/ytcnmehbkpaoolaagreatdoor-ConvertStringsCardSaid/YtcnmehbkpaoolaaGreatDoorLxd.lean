/-
 Part of the proof.
-/
import Derived.Test.YtcnmehbkpaoolaaGreatDoorEvr
import Derived.Test.YtcnmehbkpaoolaaGreatDoorPrem
import Derived.Test.YtcnmehbkpaoolaaGreatDoorToks
namespace Go.Den
open Go.RowKit
open Go.Lx (Ry Qp Wg Ov Mb Ui Afu at0)
set_option maxRecDepth 100000
def Lxs (s : List UInt8) (ts : List Amf) : Prop := ∀ k sp, s.length < k → (Ry k (s ++ [10]) sp).map (fun b => (b.1, b.2.1)) = ts ∧ We k (s ++ [10]) = true
theorem Lxs.nil : Lxs [] [] := fun k sp h => by
 cases k with
 | zero => exact absurd h (Nat.not_lt_zero _)
 | succ k => exact ⟨by show (Ry (k + 1) [10] sp).map _ = []; rw [Ry, if_pos rfl]; rfl, by show We (k + 1) [10] = true; rw [We, if_pos rfl]; rfl⟩
theorem Lxs.blank {r : List UInt8} {ts : List Amf} (h : Lxs r ts) : Lxs (32 :: r) ts := fun k sp hk => by
 cases k with
 | zero => exact absurd hk (Nat.not_lt_zero _)
 | succ k =>
  have := h k true (by simp only [List.length_cons] at hk; omega)
  refine ⟨?_, ?_⟩
  · show (Ry (k + 1) (32 :: (r ++ [10])) sp).map _ = ts
    rw [Ry, if_neg (by decide), if_pos (by decide)]; exact this.1
  · show We (k + 1) (32 :: (r ++ [10])) = true
    rw [We, if_neg (by decide), if_pos (by decide)]; exact this.2
theorem Lxs.tok {x : UInt8} {w r : List UInt8} {ts : List Amf} {kd : Nat} (h : Lxs r ts) (h10 : x ≠ 10) (hw : Go.Lx.Gr x = false) (hc : Qp (x :: (w ++ (r ++ [10]))) = none) (hn : Go.Lx.Gw (x :: (w ++ (r ++ [10]))) = (kd, 1 + w.length, false)) : Lxs (x :: (w ++ r)) ((kd, x :: w) :: ts) := fun k sp hk => by
 cases k with
 | zero => exact absurd hk (Nat.not_lt_zero _)
 | succ k =>
  have := h k false (by simp only [List.length_cons, List.length_append] at hk; omega)
  have e0 : x :: (w ++ r) ++ [10] = x :: (w ++ (r ++ [10])) := by simp
  have e1 : (x :: (w ++ (r ++ [10]))).take (1 + w.length) = x :: w := by
   rw [Nat.add_comm, List.take_succ_cons, List.take_left']; rfl
  have e2 : (x :: (w ++ (r ++ [10]))).drop (1 + w.length) = r ++ [10] := by
   rw [Nat.add_comm, List.drop_succ_cons, List.drop_left']; rfl
  refine ⟨?_, ?_⟩
  · rw [e0, Ry, if_neg h10, if_neg (by rw [hw]; simp), hc]
    simp only [hn, e1, e2, List.map_cons]
    rw [this.1]
  · rw [e0, We, if_neg h10, if_neg (by rw [show Gr x = false from hw]; simp), hc]
    simp only [hn, e2, Bool.not_false, Bool.true_and]
    exact this.2
theorem Aoe : ∀ {s : List UInt8}, (∀ x ∈ s, x ≠ 63) → Go.Lx.Ap4 s = true
 | [], _ => rfl
 | [_], _ => rfl
 | a :: b :: r, h => by
  show (!(a == 63 && b == 63) && Go.Lx.Ap4 (b :: r)) = true
  rw [Aoe (fun x hx => h x (by simp only [List.mem_cons] at hx ⊢; exact .inr hx)), Bool.and_true]
  rw [show (a == 63) = false from beq_eq_false_iff_ne.2 (h a (by simp))]; rfl
end Go.Den
