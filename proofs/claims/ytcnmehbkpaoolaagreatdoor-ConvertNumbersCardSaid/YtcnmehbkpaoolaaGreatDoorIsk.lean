/-
 Proof.
-/
import Derived.Test.YtcnmehbkpaoolaaGreatDoorToks
import Derived.Test.YtcnmehbkpaoolaaGreatDoorAwk
noncomputable section
namespace Go.Den
open Go.RowKit
set_option maxRecDepth 100000
def ct2 (c : CT) : Nat × List UInt8 := (c.kind, c.text)
def Acu (b : Nat × List UInt8 × Bool) : Option (Nat × List UInt8) := Ho ⟨(b.1 : Int), b.2.1, false, [], 0, 0, false, .Ad⟩
theorem Azi (x : Tok) : Ho (Vy x) = Acu (bare x) := rfl
theorem Aoy : ∀ (T : List Tok) (i : Nat), (∀ x ∈ T, x.kind ≠ 4 ∧ x.kind ≠ 7) →
    (Dv (T.map Vy) i 0).1.map ct2 = (T.map bare).filterMap Acu ++ [(8, [])] ∧ (Dv (T.map Vy) i 0).2.length = (T.map bare).countP fun b => (Acu b).isNone
  | [], i, _ => by rw [List.map_nil, Dv]; exact ⟨rfl, rfl⟩
  | x :: T, i, h => by
    have ih := Aoy T (i + 1) fun y hy => h y (by simp [hy])
    obtain ⟨h4, h7⟩ := h x (by simp)
    have e4 : ¬ (Vy x).kind = 4 := fun e => h4 (by have : (x.kind : Int) = 4 := e; omega)
    have e7 : ¬ (Vy x).kind = 7 := fun e => h7 (by have : (x.kind : Int) = 7 := e; omega)
    rw [List.map_cons, Dv, if_neg e4, if_neg e7, List.map_cons, List.filterMap_cons, List.countP_cons, ← Azi x]
    cases hk : Ho (Vy x) with
    | none =>
      simp only []
      refine ⟨ih.1, ?_⟩
      simp [ih.2]
    | some p =>
      simp only []
      refine ⟨?_, ?_⟩
      · rw [List.map_cons, ih.1]; rfl
      · simp [ih.2]
theorem Aa0 {O : List CT} {i : Nat} (h : i < O.length) (h' : i < (O.map CT.cells).length) : (O.map CT.cells)[i] = O[i].cells := List.getElem_map ..
theorem Rd.ctk {h : H} {v : AV} {O : List CT} {i : Nat} {K : AV → Prop} {p : Nat × List UInt8} (hr : Rd 7 h v (O.map CT.cells)) (hp : (O.map ct2)[i]? = some p) (hk : K (.int .i64 (.ofNat p.1))) : Cf 7 i v fun a => Aq 0 a fun a => Go.Den.ld1 a h K := by
 have hi : i < O.length := by
  rcases Nat.lt_or_ge i O.length with h1 | h1
  · exact h1
  · rw [List.getElem?_eq_none (by rw [List.length_map]; exact h1)] at hp; cases hp
 have hi' : i < (O.map CT.cells).length := by rw [List.length_map]; exact hi
 rw [List.getElem?_map, List.getElem?_eq_getElem hi] at hp
 cases hp
 refine hr.fld (j := 0) hi' (by rw [Aa0 hi]; exact Nat.zero_lt_succ _) ?_
 simp only [Aa0 hi]
 exact hk
end Go.Den
