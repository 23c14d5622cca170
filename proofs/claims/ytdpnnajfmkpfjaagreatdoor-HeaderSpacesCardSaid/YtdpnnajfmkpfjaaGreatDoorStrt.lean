/-
  A part of the proof: how a call begins that is handed words.
-/
import Derived.Test.YtdpnnajfmkpfjaaGreatDoorLexd
import Derived.SliceStrings
import Derived.WideShapes
import Derived.SizedLaws
import Derived.ChangeMaps5
namespace Go.Den
open Go.RowKit Go.ChangeShapes Go.WideShapes
set_option maxRecDepth 100000
theorem cells9 : PP.cellsOf 9 = 1 := by kernel_rfl
theorem locs_len : locs0.length = 9 := rfl
theorem obs_len : obs0.length = 9 := rfl
theorem start_strings {H' : Type} {enc' : TypeId × Value → H'} {W : World} {base b0 : Nat} {held : Bool} {r : Reach} {v0 : Value} {d : DataW H'} {ps : List MemPlace} (hval : Value.okWide PP W r b0 33 v0) (hd : DataW.Trod enc' PP W base (fun _ => true) held 33 v0 d ps) :
    ∃ (l : List (List UInt8)) (v : AV) (L : List Loc) (obs : List (Ob FT)), Sim (mu0 L) (initH obs) W ∧ Globs (mu0 L) G ∧ obs.all (fun o => !o.own) = true ∧ VR (mu0 L) v v0 ∧ Wrds (initH obs) v l ∧ ∀ w ∈ l, w.length ≤ 9223372036854775807 := by
  obtain ⟨a0, len0, cap0, rfl⟩ := okWide_slice Proofs.Tryz.underlying33 hval
  obtain ⟨fuel, hf⟩ := hd
  rcases Go.ChangeShapes.open_strings Proofs.Tryz.underlying33 Proofs.Tryz.underlying9 cells9 hf with ⟨e, _⟩ | ⟨a, len, cap, zs, e, _, hle, _, hzl, _, hcell, hwf⟩
  · have e : Value.slice a0 len0 cap0 = .slice none 0 0 := by simpa [Value.cells] using e
    rw [e]
    exact ⟨[], .nils, locs0, obs0, sim0 W, globs0, rfl, rfl, .inl ⟨rfl, rfl⟩, fun _ h => nomatch h⟩
  · have e : Value.slice a0 len0 cap0 = .slice (some a) len cap := by simpa [Value.cells] using e
    rw [e] at hval ⊢
    have hval : len ≤ cap ∧ (cap : Int) ≤ IntKind.i64.max ∧ W.has PP r b0 a 9 cap := by
      simpa [Value.okWide, Cell.okWide, Cell.ok, Proofs.Tryz.underlying33] using hval
    obtain ⟨_, _, _, hspot, row, n, hshape, _⟩ := hval
    obtain ⟨cs, fz, hblk, rfl⟩ : ∃ cs fz, W.heap[a.block]? = some (.cells cs row fz) ∧ cs.size = n := by
      unfold World.shape? at hshape
      cases hb : W.heap[a.block]? with
      | none => rw [hb] at hshape; cases hshape
      | some o =>
        rw [hb] at hshape
        cases o <;> simp at hshape
        rename_i c el f
        obtain ⟨rfl, rfl⟩ := hshape
        exact ⟨c, f, rfl, rfl⟩
    have hzl : zs.length = cap := hzl
    have hzle : len ≤ zs.length := by omega
    have hcs : ∀ i, i < zs.length → cs[a.off + i]? = some (.string (zs.getD i ByteArray.empty)) := by
      intro i hi
      have h := hcell i hi
      unfold World.cell? Addr.add at h
      by_cases h0 : i = 0
      · subst h0
        rw [if_pos rfl, hblk] at h
        simp [hspot] at h
        rw [Nat.add_zero, h]; simp
      · rw [if_neg h0] at h
        simp only [hblk] at h
        simpa using h
    let l : List (List UInt8) := (zs.take len).map fun z => z.data.toList
    have hll : l.length = len := by simp [l]; omega
    have hlz : ∀ i (hi : i < l.length), zs.getD i ByteArray.empty = ⟨⟨l[i]⟩⟩ := by
      intro i hi
      have hiz : i < zs.length := by omega
      rw [List.getD_eq_getElem?_getD, List.getElem?_eq_getElem hiz]
      have e2 : l[i] = (zs[i]).data.toList := by simp [l]
      rw [e2]; rfl
    let off : Nat := if cap = 0 then 0 else a.off
    have hoff : off + cap ≤ cs.size ∨ cap = 0 := by
      by_cases h0 : cap = 0
      · exact .inr h0
      · left
        show (if cap = 0 then 0 else a.off) + cap ≤ _
        rw [if_neg h0]
        have h1 := hcs (cap - 1) (by omega)
        have := (Array.getElem?_eq_some_iff.1 h1).1
        omega
    refine ⟨l, .slice (pOf 9) 0 len 1 false, locs0 ++ [⟨a.block, off, cs.size⟩], obs0 ++ [.ext (fun i => S (l.getD i [])) len], ?_, ?_, ?_, ?_, ?_, ?_⟩
    · refine sim_init rfl rfl fun i o c h1 h2 => ?_
      by_cases hi : i < 9
      · rw [List.getElem?_append_left (by rw [obs_len]; exact hi)] at h1
        have : o = .dead := List.eq_of_mem_replicate (List.mem_of_getElem? h1)
        subst this; trivial
      · rw [List.getElem?_append_right (by rw [obs_len]; omega), obs_len] at h1
        rw [List.getElem?_append_right (by rw [locs_len]; omega), locs_len] at h2
        have hi9 : i - 9 = 0 := by
          rcases Nat.eq_zero_or_pos (i - 9) with h | h
          · exact h
          · rw [List.getElem?_eq_none (by simp; omega)] at h1; cases h1
        rw [hi9] at h1 h2
        cases h1; cases h2
        refine ⟨cs, row, fz, hblk, rfl, ?_, fun j hj => ?_⟩
        · rcases hoff with h | h
          · show off + len ≤ cs.size
            omega
          · show (if cap = 0 then 0 else a.off) + len ≤ cs.size
            rw [if_pos h]; omega
        · have hcap : ¬ cap = 0 := by omega
          have ho : off = a.off := if_neg hcap
          refine ⟨_, by show cs[off + j]? = _; rw [ho]; exact hcs j (by omega), ?_, rfl⟩
          rw [hlz j (by omega)]
          refine ⟨_, rfl, ?_, ?_⟩
          · rw [List.getD_eq_getElem?_getD, List.getElem?_eq_getElem (by omega)]; rfl
          · rw [List.getD_eq_getElem?_getD, List.getElem?_eq_getElem (by omega)]; rfl
    · refine globs_init fun g hg => ?_
      have hg : g < 9 := hg
      refine ⟨⟨g, 0, 0⟩, ?_, rfl, rfl⟩
      match g, hg with
      | 0, _ | 1, _ | 2, _ | 3, _ | 4, _ | 5, _ | 6, _ | 7, _ | 8, _ => rfl
    · rfl
    · refine ⟨a, cap, rfl, hle, (fun e => nomatch e), ?_⟩
      by_cases h0 : cap = 0
      · exact .inl h0
      · right
        have ho : off = a.off := if_neg h0
        refine ⟨⟨a.block, off, cs.size⟩, ?_, ?_, ?_⟩
        · show (locs0 ++ [_])[(pOf 9).nat]? = _
          rw [nat_pOf]; rfl
        · show a = ⟨a.block, off + 0, none⟩
          rw [ho, ← hspot]; rfl
        · show off + 0 + cap * 1 ≤ cs.size
          rcases hoff with h | h
          · omega
          · exact absurd h h0
    · refine .inr ⟨pOf 9, fun i => S (l.getD i []), len, by rw [hll], ?_, ?_, by omega, fun i hi => ?_⟩
      · show (pOf 9).nat < (pOf 10).nat
        rw [nat_pOf, nat_pOf]; decide
      · rw [at_init, nat_pOf]; rfl
      · show S (l.getD i []) = _
        rw [List.getD_eq_getElem?_getD, List.getElem?_eq_getElem hi]; rfl
    · intro w hw
      obtain ⟨z, hz, rfl⟩ := List.mem_map.1 hw
      exact hwf z (List.mem_of_mem_take hz)
end Go.Den
