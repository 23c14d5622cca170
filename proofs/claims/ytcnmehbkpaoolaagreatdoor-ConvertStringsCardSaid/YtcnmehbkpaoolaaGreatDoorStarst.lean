/-
 Part of the proof.
-/
import Derived.Test.YtcnmehbkpaoolaaGreatDoorStw
import Derived.Test.YtcnmehbkpaoolaaGreatDoorStarn
import Derived.SliceStrings
namespace Go.Den
open Go.RowKit Go.ChangeShapes Go.WideShapes
set_option maxRecDepth 100000
theorem A8t : PP.cellsOf 9 = 1 := by kernel_rfl
theorem Akj {H' : Type} {enc' : TypeId × Value → H'} {W : World} {base b0 : Nat} {held : Bool} {r : Reach} {v0 : Value} {d : DataW H'} {ps : List MemPlace} (hL : laidMetH PP Aj6 W) (hval : Value.okWide PP W r b0 44 v0) (hd : DataW.Trod enc' PP W base (fun _ => true) held 44 v0 d ps) :
 ∃ (l : List (List UInt8)) (v : AV) (L : List Loc) (obs : List (Ob FT)), Sim (mu0 L) (Kk obs) W ∧ Fy (mu0 L) G ∧ obs.all (fun o => !o.own) = true ∧ VR (mu0 L) v v0 ∧ Stz (Kk obs) v l ∧ Jz (Kk obs) := by
 obtain ⟨aE, key⟩ := At6 hL
 obtain ⟨a0, len0, cap0, rfl⟩ := okWide_slice Proofs.Tryz.underlying44 hval
 obtain ⟨fuel, hf⟩ := hd
 rcases open_strings Proofs.Tryz.underlying44 Proofs.Tryz.underlying9 A8t hf with ⟨e, _⟩ | ⟨a, len, cap, zs, e, _, hle, _, hzl, _, hcell, _⟩
 · have e : Value.slice a0 len0 cap0 = .slice none 0 0 := by simpa [Value.cells] using e
   rw [e]
   refine ⟨[], .Ad, Acp aE, Atl, Ze rfl rfl fun i o c h1 h2 => key _ rfl i o c h1 h2, Sy fun g hg => ?_, rfl, rfl, .inl ⟨rfl, rfl⟩, Acy rfl rfl (Nat.le_refl _)⟩
   have hg : g < 12 := hg
   match g, hg with
   | 0, _ | 1, _ | 2, _ | 3, _ | 4, _ | 5, _ | 6, _ | 7, _ | 8, _ | 9, _ | 10, _ | 11, _ => exact ⟨_, rfl, rfl, rfl⟩
 · have e : Value.slice a0 len0 cap0 = .slice (some a) len cap := by simpa [Value.cells] using e
   rw [e] at hval ⊢
   have hval : len ≤ cap ∧ (cap : Int) ≤ IntKind.i64.max ∧ W.has PP r b0 a 9 cap := by
    simpa [Value.okWide, Cell.okWide, Cell.ok, Proofs.Tryz.underlying44] using hval
   obtain ⟨_, _, _, hspot, row, n, hshape, _⟩ := hval
   obtain ⟨cs, fz, hblk, rfl⟩ : ∃ cs fz, W.heap[a.block]? = some (.cells cs row fz) ∧ cs.size = n := by
    unfold World.shape? at hshape
    cases hb : W.heap[a.block]? with
    | none => rw [hb] at hshape; cases hshape
    | some o =>
     rw [hb] at hshape
     cases o <;> simp at hshape
     rename_i c el f
     obtain ⟨rfl, rfl⟩ := hshape
     exact ⟨c, f, rfl, rfl⟩
   have hzl : zs.length = cap := hzl
   have hzle : len ≤ zs.length := by omega
   have hcs : ∀ i, i < zs.length → cs[a.off + i]? = some (.string (zs.getD i ByteArray.empty)) := by
    intro i hi
    have h := hcell i hi
    unfold World.cell? Addr.add at h
    by_cases h0 : i = 0
    · subst h0
      rw [if_pos rfl, hblk] at h
      simp [hspot] at h
      rw [Nat.add_zero, h]; simp
    · rw [if_neg h0] at h
      simp only [hblk] at h
      simpa using h
   have hll : ((zs.take len).map fun y => y.data.toList).length = len := by simp; omega
   let off : Nat := if cap = 0 then 0 else a.off
   have hoff : off + cap ≤ cs.size ∨ cap = 0 := by
    by_cases h0 : cap = 0
    · exact .inr h0
    · left
      show (if cap = 0 then 0 else a.off) + cap ≤ _
      rw [if_neg h0]
      have h1 := hcs (cap - 1) (by omega)
      have := (Array.getElem?_eq_some_iff.1 h1).1
      omega
   have ho13 : Atl.length = 13 := rfl
   have hl13 : (Acp aE).length = 13 := rfl
   refine ⟨(zs.take len).map fun y => y.data.toList, .slice (pOf 13) 0 len 1 false, Acp aE ++ [⟨a.block, off, cs.size⟩], Atl ++ [.ext (fun i => S (zs.getD i ByteArray.empty).data.toList) len], ?_, ?_, ?_, ?_, ?_, ?_⟩
   · refine Ze rfl rfl fun i o c h1 h2 => ?_
     by_cases hi : i < 13
     · rw [List.getElem?_append_left (by rw [ho13]; exact hi)] at h1
       rw [List.getElem?_append_left (by rw [hl13]; exact hi)] at h2
       exact key _ rfl i o c h1 h2
     · rw [List.getElem?_append_right (by rw [ho13]; omega), ho13] at h1
       rw [List.getElem?_append_right (by rw [hl13]; omega), hl13] at h2
       have hi13 : i - 13 = 0 := by
        rcases Nat.eq_zero_or_pos (i - 13) with h | h
        · exact h
        · rw [List.getElem?_eq_none (by simp; omega)] at h1; cases h1
       rw [hi13] at h1 h2
       cases h1; cases h2
       refine ⟨cs, row, fz, hblk, rfl, ?_, fun j hj => ?_⟩
       · rcases hoff with h | h
         · show off + len ≤ cs.size
           omega
         · show (if cap = 0 then 0 else a.off) + len ≤ cs.size
           rw [if_pos h]; omega
       · have hcap : ¬ cap = 0 := by omega
         have ho : off = a.off := if_neg hcap
         exact ⟨_, by show cs[off + j]? = _; rw [ho]; exact hcs j (by omega), ⟨_, rfl, rfl, rfl⟩, rfl⟩
   · refine Sy fun g hg => ?_
     have hg : g < 12 := hg
     match g, hg with
     | 0, _ | 1, _ | 2, _ | 3, _ | 4, _ | 5, _ | 6, _ | 7, _ | 8, _ | 9, _ | 10, _ | 11, _ => exact ⟨_, rfl, rfl, rfl⟩
   · rfl
   · refine ⟨a, cap, rfl, hle, ⟨fun e => (Bool.false_ne_true e).elim, ⟨a.block, off, cs.size⟩, ?_⟩, ?_⟩
     · show (Acp aE ++ [_])[(pOf 13).nat]? = _
       rw [Cq]; rfl
     by_cases h0 : cap = 0
     · exact .inl h0
     · right
       have ho : off = a.off := if_neg h0
       refine ⟨⟨a.block, off, cs.size⟩, ?_, ?_, ?_⟩
       · show (Acp aE ++ [_])[(pOf 13).nat]? = _
         rw [Cq]; rfl
       · show a = ⟨a.block, off + 0, none⟩
         rw [ho, ← hspot]; rfl
       · show off + 0 + cap * 1 ≤ cs.size
         rcases hoff with h | h
         · omega
         · exact absurd h h0
   · refine .inr ⟨pOf 13, fun i => S (zs.getD i ByteArray.empty).data.toList, len, by rw [hll], ?_, ?_, by rw [hll]; exact Nat.le_refl _, fun i hi => ?_⟩
     · show (pOf 13).nat < (pOf 14).nat
       rw [Cq, Cq]; decide
     · rw [Hu, Cq]; rfl
     · rw [hll] at hi
       rw [List.getElem_map, List.getElem_take]
       show S (zs.getD i ByteArray.empty).data.toList = _
       rw [List.getD_eq_getElem?_getD, List.getElem?_eq_getElem (by omega)]; rfl
   · exact Acy rfl rfl (by simp [ho13])
end Go.Den
