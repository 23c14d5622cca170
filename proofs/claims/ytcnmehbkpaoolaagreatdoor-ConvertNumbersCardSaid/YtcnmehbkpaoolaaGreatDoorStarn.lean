/-
 Proof.
-/
import Derived.Test.YtcnmehbkpaoolaaGreatDoorNbr
import Derived.Test.YtcnmehbkpaoolaaGreatDoorStar
import Derived.ChangeSlices
import Derived.WideShapes
import Derived.SizedLaws
import Derived.ChangeMaps5
namespace Go.Den
open Go.RowKit Go.ChangeShapes Go.WideShapes
set_option maxRecDepth 100000
def Aco (a : Addr) : List Loc := [⟨0, 0, 256⟩, ⟨1, 0, 0⟩, ⟨2, 0, 0⟩, ⟨3, 0, 0⟩, ⟨4, 0, 0⟩, ⟨5, 0, 0⟩, ⟨6, 0, 1⟩, ⟨7, 0, 0⟩, ⟨8, 0, 0⟩, ⟨9, 0, 0⟩, ⟨10, 0, 0⟩, ⟨11, 0, 0⟩, ⟨a.block, a.off, 0⟩]
theorem At1 {W : World} (hL : laidMetH PP Aj5 W) : ∃ a : Addr, ∀ (L : List Loc), L[12]? = some ⟨a.block, a.off, 0⟩ → ∀ (i : Nat) (o : Ob FT) (c : Loc), (Atf : List (Ob FT))[i]? = some o → (Aco a)[i]? = some c → ObR (mu0 L) W c o := by
 obtain ⟨a, hv, hsp⟩ := Azx hL
 obtain ⟨e6, fz6, hb6⟩ := Ajt (by kernel_rfl) hv
 obtain ⟨cs, hv0, hcs⟩ := Apl hL
 obtain ⟨e0, fz0, hb0⟩ := Ajt (by kernel_rfl) hv0
 have hsz : cs.size = 256 := by
  have := congrArg List.length hcs
  rw [List.length_map] at this
  unfold Adk at this
  rw [List.length_map, List.length_range] at this
  rw [← this]; simp
 refine ⟨a, fun L hL12 i o c h1 h2 => ?_⟩
 have dead : ∀ μ : Mu, o = .dead → ObR μ W c o := fun μ e => by subst e; trivial
 match i, h1, h2 with
 | 0, h1, h2 =>
  cases h1; cases h2
  refine ⟨_, e0, fz0, hb0, hsz.symm, by show 0 + 256 ≤ cs.size; omega, fun j hj => ?_⟩
  refine ⟨.int .u8 ((Akm j : Nat) : Int), ?_, rfl, rfl⟩
  rw [Nat.zero_add, ← Array.getElem?_toList, hcs, List.getElem?_map]
  unfold Adk
  rw [List.getElem?_map, List.getElem?_range hj]; rfl
 | 6, h1, h2 =>
  cases h1; cases h2
  refine ⟨_, e6, fz6, hb6, rfl, Nat.le_refl 1, fun j hj => ?_⟩
  have : j = 0 := by omega
  subst this
  refine ⟨_, rfl, ⟨_, rfl, ⟨a.block, a.off, 0⟩, ?_, ?_⟩, rfl⟩
  · show L[(pOf 12).nat]? = _
    rw [Co]; exact hL12
  · show Value.pointer (some a) = .pointer (some ⟨a.block, a.off + 0, none⟩)
    rw [← hsp]; rfl
 | 1, h1, _ | 2, h1, _ | 3, h1, _ | 4, h1, _ | 5, h1, _ | 7, h1, _ | 8, h1, _ | 9, h1, _ | 10, h1, _ | 11, h1, _ | 12, h1, _ => exact dead _ (Option.some.inj h1).symm
 | i + 13, h1, _ => cases h1
theorem A8m : PP.cellsOf 3 = 1 := by kernel_rfl
theorem Acy {l : List (Ob FT)} (h0 : l[0]? = some oA) (h6 : l[6]? = some oE) (hl : 13 ≤ l.length) : Jj (Kl l) := by
 refine ⟨?_, ?_, ?_⟩
 · rw [Hv, Co, List.getD_eq_getElem?_getD, h0]; rfl
 · rw [Hv, Co, List.getD_eq_getElem?_getD, h6]; rfl
 · show 13 ≤ (pOf l.length).nat
   rw [Co]; exact hl
theorem Akj {H' : Type} {enc' : TypeId × Value → H'} {W : World} {base b0 : Nat} {held : Bool} {r : Reach} {v0 : Value} {d : DataW H'} {ps : List MemPlace} (hL : laidMetH PP Aj5 W) (hval : Value.okWide PP W r b0 51 v0) (hd : DataW.Trod enc' PP W base (fun _ => true) held 51 v0 d ps) :
    ∃ (l : List Int) (v : AV) (L : List Loc) (obs : List (Ob FT)), Sim (mu0 L) (Kl obs) W ∧ Fy (mu0 L) G ∧ obs.all (fun o => !o.own) = true ∧ VR (mu0 L) v v0 ∧ Itz (Kl obs) v l ∧ Jj (Kl obs) := by
  obtain ⟨aE, key⟩ := At1 hL
  obtain ⟨a0, len0, cap0, rfl⟩ := okWide_slice Proofs.Tryz.underlying51 hval
  obtain ⟨fuel, hf⟩ := hd
  rcases open_ints Proofs.Tryz.underlying51 Proofs.Tryz.underlying3 A8m hf with ⟨e, _⟩ | ⟨a, len, cap, zs, e, _, hle, _, hzl, _, hcell, hwf⟩
  · have e : Value.slice a0 len0 cap0 = .slice none 0 0 := by simpa [Value.cells] using e
    rw [e]
    refine ⟨[], .Ad, Aco aE, Atf, Yy rfl rfl fun i o c h1 h2 => key _ rfl i o c h1 h2, Tb fun g hg => ?_, rfl, rfl, .inl ⟨rfl, rfl⟩, Acy rfl rfl (Nat.le_refl _)⟩
    have hg : g < 12 := hg
    match g, hg with
    | 0, _ | 1, _ | 2, _ | 3, _ | 4, _ | 5, _ | 6, _ | 7, _ | 8, _ | 9, _ | 10, _ | 11, _ => exact ⟨_, rfl, rfl, rfl⟩
  · have e : Value.slice a0 len0 cap0 = .slice (some a) len cap := by simpa [Value.cells] using e
    rw [e] at hval ⊢
    have hval : len ≤ cap ∧ (cap : Int) ≤ IntKind.i64.max ∧ W.has PP r b0 a 3 cap := by
      simpa [Value.okWide, Cell.okWide, Cell.ok, Proofs.Tryz.underlying51] using hval
    obtain ⟨_, _, _, hspot, row, n, hshape, _⟩ := hval
    obtain ⟨cs, fz, hblk, rfl⟩ : ∃ cs fz, W.heap[a.block]? = some (.cells cs row fz) ∧ cs.size = n := by
      unfold World.shape? at hshape
      cases hb : W.heap[a.block]? with
      | none => rw [hb] at hshape; cases hshape
      | some o =>
        rw [hb] at hshape
        cases o <;> simp at hshape
        rename_i c el f
        obtain ⟨rfl, rfl⟩ := hshape
        exact ⟨c, f, rfl, rfl⟩
    have hzl : zs.length = cap := hzl
    have hzle : len ≤ zs.length := by omega
    have hcs : ∀ i, i < zs.length → cs[a.off + i]? = some (.int .i64 (zs.getD i 0)) := by
      intro i hi
      have h := hcell i hi
      unfold World.cell? Addr.add at h
      by_cases h0 : i = 0
      · subst h0
        rw [if_pos rfl, hblk] at h
        simp [hspot] at h
        rw [Nat.add_zero, h]; simp
      · rw [if_neg h0] at h
        simp only [hblk] at h
        simpa using h
    have hll : (zs.take len).length = len := by simp; omega
    let off : Nat := if cap = 0 then 0 else a.off
    have hoff : off + cap ≤ cs.size ∨ cap = 0 := by
      by_cases h0 : cap = 0
      · exact .inr h0
      · left
        show (if cap = 0 then 0 else a.off) + cap ≤ _
        rw [if_neg h0]
        have h1 := hcs (cap - 1) (by omega)
        have := (Array.getElem?_eq_some_iff.1 h1).1
        omega
    have ho13 : Atf.length = 13 := rfl
    have hl13 : (Aco aE).length = 13 := rfl
    refine ⟨zs.take len, .slice (pOf 13) 0 len 1 false, Aco aE ++ [⟨a.block, off, cs.size⟩], Atf ++ [.ext (fun i => .int .i64 (zs.getD i 0)) len], ?_, ?_, ?_, ?_, ?_, ?_⟩
    · refine Yy rfl rfl fun i o c h1 h2 => ?_
      by_cases hi : i < 13
      · rw [List.getElem?_append_left (by rw [ho13]; exact hi)] at h1
        rw [List.getElem?_append_left (by rw [hl13]; exact hi)] at h2
        exact key _ rfl i o c h1 h2
      · rw [List.getElem?_append_right (by rw [ho13]; omega), ho13] at h1
        rw [List.getElem?_append_right (by rw [hl13]; omega), hl13] at h2
        have hi13 : i - 13 = 0 := by
          rcases Nat.eq_zero_or_pos (i - 13) with h | h
          · exact h
          · rw [List.getElem?_eq_none (by simp; omega)] at h1; cases h1
        rw [hi13] at h1 h2
        cases h1; cases h2
        refine ⟨cs, row, fz, hblk, rfl, ?_, fun j hj => ?_⟩
        · rcases hoff with h | h
          · show off + len ≤ cs.size
            omega
          · show (if cap = 0 then 0 else a.off) + len ≤ cs.size
            rw [if_pos h]; omega
        · have hcap : ¬ cap = 0 := by omega
          have ho : off = a.off := if_neg hcap
          exact ⟨_, by show cs[off + j]? = _; rw [ho]; exact hcs j (by omega), rfl, rfl⟩
    · refine Tb fun g hg => ?_
      have hg : g < 12 := hg
      match g, hg with
      | 0, _ | 1, _ | 2, _ | 3, _ | 4, _ | 5, _ | 6, _ | 7, _ | 8, _ | 9, _ | 10, _ | 11, _ => exact ⟨_, rfl, rfl, rfl⟩
    · rfl
    · refine ⟨a, cap, rfl, hle, ⟨fun e => (Bool.false_ne_true e).elim, ⟨a.block, off, cs.size⟩, ?_⟩, ?_⟩
      · show (Aco aE ++ [_])[(pOf 13).nat]? = _
        rw [Co]; rfl
      by_cases h0 : cap = 0
      · exact .inl h0
      · right
        have ho : off = a.off := if_neg h0
        refine ⟨⟨a.block, off, cs.size⟩, ?_, ?_, ?_⟩
        · show (Aco aE ++ [_])[(pOf 13).nat]? = _
          rw [Co]; rfl
        · show a = ⟨a.block, off + 0, none⟩
          rw [ho, ← hspot]; rfl
        · show off + 0 + cap * 1 ≤ cs.size
          rcases hoff with h | h
          · omega
          · exact absurd h h0
    · refine .inr ⟨pOf 13, fun i => .int .i64 (zs.getD i 0), len, by rw [hll], ?_, ?_, by rw [hll]; exact Nat.le_refl _, fun i hi => ?_⟩
      · show (pOf 13).nat < (pOf 14).nat
        rw [Co, Co]; decide
      · rw [Hv, Co]; rfl
      · rw [hll] at hi
        rw [List.getElem_take]
        show AV.int .i64 (zs.getD i 0) = _
        rw [List.getD_eq_getElem?_getD, List.getElem?_eq_getElem (by omega)]; rfl
    · exact Acy rfl rfl (by simp [ho13])
end Go.Den
