/-
 Part of the proof.
-/
import Derived.Test.YtcnmehbkpaoolaaGreatDoorNbr
import Derived.Test.YtcnmehbkpaoolaaGreatDoorStar
import Derived.ChangeSlices
import Derived.WideShapes
import Derived.SizedLaws
import Derived.ChangeMaps5
namespace Go.Den
open Go.RowKit Go.ChangeShapes Go.WideShapes
set_option maxRecDepth 100000
def Acp (a : Addr) : List Loc := [⟨0, 0, 256⟩, ⟨1, 0, 0⟩, ⟨2, 0, 0⟩, ⟨3, 0, 0⟩, ⟨4, 0, 0⟩, ⟨5, 0, 0⟩, ⟨6, 0, 1⟩, ⟨7, 0, 0⟩, ⟨8, 0, 0⟩, ⟨9, 0, 0⟩, ⟨10, 0, 0⟩, ⟨11, 0, 0⟩, ⟨a.block, a.off, 0⟩]
theorem At6 {W : World} (hL : laidMetH PP Aj6 W) : ∃ a : Addr, ∀ (L : List Loc), L[12]? = some ⟨a.block, a.off, 0⟩ → ∀ (i : Nat) (o : Ob FT) (c : Loc), (Atl : List (Ob FT))[i]? = some o → (Acp a)[i]? = some c → ObR (mu0 L) W c o := by
 obtain ⟨a, hv, hsp⟩ := Az7 hL
 obtain ⟨e6, fz6, hb6⟩ := Ajt (by kernel_rfl) hv
 obtain ⟨cs, hv0, hcs⟩ := Apr hL
 obtain ⟨e0, fz0, hb0⟩ := Ajt (by kernel_rfl) hv0
 have hsz : cs.size = 256 := by
  have := congrArg List.length hcs
  rw [List.length_map] at this
  unfold Adm at this
  rw [List.length_map, List.length_range] at this
  rw [← this]; simp
 refine ⟨a, fun L hL12 i o c h1 h2 => ?_⟩
 have dead : ∀ μ : Mu, o = .dead → ObR μ W c o := fun μ e => by subst e; trivial
 match i, h1, h2 with
 | 0, h1, h2 =>
  cases h1; cases h2
  refine ⟨_, e0, fz0, hb0, hsz.symm, by show 0 + 256 ≤ cs.size; omega, fun j hj => ?_⟩
  refine ⟨.int .u8 ((Akm j : Nat) : Int), ?_, rfl, rfl⟩
  rw [Nat.zero_add, ← Array.getElem?_toList, hcs, List.getElem?_map]
  unfold Adm
  rw [List.getElem?_map, List.getElem?_range hj]; rfl
 | 6, h1, h2 =>
  cases h1; cases h2
  refine ⟨_, e6, fz6, hb6, rfl, Nat.le_refl 1, fun j hj => ?_⟩
  have : j = 0 := by omega
  subst this
  refine ⟨_, rfl, ⟨_, rfl, ⟨a.block, a.off, 0⟩, ?_, ?_⟩, rfl⟩
  · show L[(pOf 12).nat]? = _
    rw [Cq]; exact hL12
  · show Value.pointer (some a) = .pointer (some ⟨a.block, a.off + 0, none⟩)
    rw [← hsp]; rfl
 | 1, h1, _ | 2, h1, _ | 3, h1, _ | 4, h1, _ | 5, h1, _ | 7, h1, _ | 8, h1, _ | 9, h1, _ | 10, h1, _ | 11, h1, _ | 12, h1, _ => exact dead _ (Option.some.inj h1).symm
 | i + 13, h1, _ => cases h1
theorem Acy {l : List (Ob FT)} (h0 : l[0]? = some oA) (h6 : l[6]? = some oE) (hl : 13 ≤ l.length) : Jz (Kk l) := by
 refine ⟨?_, ?_, ?_⟩
 · rw [Hu, Cq, List.getD_eq_getElem?_getD, h0]; rfl
 · rw [Hu, Cq, List.getD_eq_getElem?_getD, h6]; rfl
 · show 13 ≤ (pOf l.length).nat
   rw [Cq]; exact hl
end Go.Den
