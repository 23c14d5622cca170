/-
 Part of the proof.
-/
import Derived.Test.YtcnmehbkpaoolaaGreatDoorNbs
namespace Go.Den
open Go.RowKit
set_option maxRecDepth 100000
theorem Bmj : Pure PP G h0 22 [S []] .Ad := pure_run (by kernel_rfl)
theorem A82 {h : H} {s : List UInt8} {k : KV} (hl : s.length ≤ 900000) (hs : ∀ x ∈ s, x ≠ 10 ∧ x ≠ 63) {ts : List Amf} (hx : Lxs s ts)
 (hk : ∀ h' v (T : List Tok), (T.map Apk).map tk = ts → T.length ≤ s.length + 1 → Exh h h' → RdT h' v (T.map Apk) → k v h') : W1 (.func 22) [S s] h k := by
 by_cases hs0 : s = []
 · subst hs0
   have h1 := (hx 1 false (by decide)).1
   have h2 := (Lxs.nil 1 false (by decide)).1
   rw [h2] at h1
   subst h1
   exact Dq Bmj (hk h .Ad [] rfl (Nat.zero_le _) .refl (.inl ⟨rfl, rfl⟩))
 · have hc : Go.Lx.bts (Go.Lx.Ez s) = s ++ [10] := by
    rw [Go.Lx.Ajo hs0 (fun x hx => (hs x hx).1) (Aoe fun x hx => (hs x hx).2)]
    show Go.Lx.bts (Go.Lx.rnF 0 s ++ [(10, s.length, s.length)]) = _
    unfold Go.Lx.bts
    rw [List.map_append]
    have := Go.Lx.Apa s 0
    unfold Go.Lx.bts at this
    rw [this]; rfl
   have hlen : (Go.Lx.bts (Go.Lx.Ez s)).length = s.length + 1 := by rw [hc]; simp
   obtain ⟨g1, g2⟩ := hx (s.length + 1) false (Nat.lt_succ_self _)
   refine c22 (Q := fun T : List Tok => T.map bare = Go.Lx.Ry (s.length + 1) (s ++ [10]) false) (by omega) (by omega) ?_ ?_ fun h' v T hQ hT x r => ?_
   · rw [hlen, hc, Nat.add_sub_cancel, Vp (by simp), List.getElem_append_right (Nat.le_refl _)]; simp
   · rw [hc]
     exact Lx.all (by rw [List.length_append, List.length_singleton]; omega) (s.length + 1) 0 false [] g2 fun T' hT' => hT'
   · refine hk h' v T ?_ hT x r
     rw [← g1, ← hQ, List.map_map, List.map_map]; rfl
end Go.Den
