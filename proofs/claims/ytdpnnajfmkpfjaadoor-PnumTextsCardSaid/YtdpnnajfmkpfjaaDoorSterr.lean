/-
  A part of the proof: how a call begins where strconv.ErrRange stands.
-/
import Derived.Test.YtdpnnajfmkpfjaaDoorNums
import Derived.Test.YtdpnnajfmkpfjaaDoorRows
import Derived.Stop.LaidErr
import Derived.MakeChecks
import Derived.RowKitTokens
namespace Go.Den
open Go.RowKit Go.ChangeShapes
set_option maxRecDepth 100000
theorem star : "*" ++ "errors.errorString" = "*errors.errorString" := by decide
theorem row105 (u : TypeId) (h : PP.typeName? 3 u = some "*errors.errorString") : u = 105 :=
  typeName_ptr_named (nm := "errors.errorString") (by rw [star]; kernel_rfl) (by kernel_rfl) (by decide) u (by rw [star]; exact h)
theorem err_var {W : World} (hL : laidMetH PP Proofs.YtdpnnajfmkpfjaaDoor.Rows.pnumFormsRow.laid W) : ∃ a : Addr, W.heap[1]? ≠ none ∧ W.var? PP "strconv.ErrRange" = some #[.iface 105 (.pointer (some a))] ∧ a.spot = none := by
  rw [MakeChecks.laidMetH_plain _ _ _ (by kernel_rfl)] at hL
  obtain ⟨a, s, h1, h2, _, _⟩ := laid_sentinel (g := 1) (ti := 50) (tp := 105) (te := 107) (ts := 9) hL.tail.tail.tail.tail (by kernel_rfl) (by kernel_rfl) Proofs.Tryd.underlying50 row105 Proofs.Tryd.underlying105 Proofs.Tryd.underlying107 rfl rfl Proofs.Tryd.underlying9 (by kernel_rfl) (by kernel_rfl)
  have hc := World.var?_cell (show PP.globalNamed "strconv.ErrRange" = some 1 by kernel_rfl) h1 0
  refine ⟨a, ?_, h1, ?_⟩
  · intro e
    unfold World.cell? at hc
    rw [e] at hc
    simp at hc
  · unfold World.cell? at h2
    cases hb : W.heap[a.block]? with
    | none => rw [hb] at h2; cases h2
    | some o =>
      rw [hb] at h2
      cases o <;> simp at h2
      exact h2.1
theorem start_err {W : World} (hL : laidMetH PP Proofs.YtdpnnajfmkpfjaaDoor.Rows.pnumFormsRow.laid W) : ∃ L, Sim (mu0 L) h1 W ∧ Globs (mu0 L) G := by
  obtain ⟨a, hne, hv, hsp⟩ := err_var hL
  obtain ⟨cs, e, fz, hb, rfl⟩ : ∃ cs e fz, W.heap[1]? = some (.cells cs e fz) ∧ cs = #[.iface 105 (.pointer (some a))] := by
    unfold World.var? at hv
    rw [show PP.globalNamed "strconv.ErrRange" = some 1 by kernel_rfl] at hv
    simp only [Option.bind_some] at hv
    cases hb : W.heap[1]? with
    | none => exact absurd hb hne
    | some o =>
      rw [hb] at hv
      cases o <;> simp at hv
      exact ⟨_, _, _, rfl, hv⟩
  refine ⟨[⟨0, 0, 0⟩, ⟨1, 0, 1⟩, ⟨2, 0, 0⟩, ⟨3, 0, 0⟩, ⟨4, 0, 0⟩, ⟨5, 0, 0⟩, ⟨6, 0, 0⟩, ⟨7, 0, 0⟩, ⟨8, 0, 0⟩, ⟨a.block, a.off, 0⟩], ?_, ?_⟩
  · refine sim_init rfl rfl fun i o c h1 h2 => ?_
    have dead : ∀ μ : Mu, o = .dead → ObR μ W c o := fun μ e => by subst e; trivial
    match i, h1, h2 with
    | 1, h1, h2 =>
      cases h1; cases h2
      refine ⟨_, e, fz, hb, rfl, Nat.le_refl 1, fun j hj => ?_⟩
      have : j = 0 := by omega
      subst this
      refine ⟨_, rfl, ⟨_, rfl, ⟨a.block, a.off, 0⟩, ?_, ?_⟩, rfl⟩
      · show ([_, _, _, _, _, _, _, _, _, _] : List Loc)[(pOf 9).nat]? = _
        rw [nat_pOf]; rfl
      · show Value.pointer (some a) = .pointer (some ⟨a.block, a.off + 0, none⟩)
        rw [← hsp]; rfl
    | 0, h1, _ | 2, h1, _ | 3, h1, _ | 4, h1, _ | 5, h1, _ | 6, h1, _ | 7, h1, _ | 8, h1, _ | 9, h1, _ => exact dead _ (Option.some.inj h1).symm
    | i + 10, h1, _ => cases h1
  · refine globs_init fun g hg => ?_
    have hg : g < 9 := hg
    match g, hg with
    | 0, _ => exact ⟨_, rfl, rfl, rfl⟩
    | 1, _ => exact ⟨_, rfl, rfl, rfl⟩
    | 2, _ => exact ⟨_, rfl, rfl, rfl⟩
    | 3, _ => exact ⟨_, rfl, rfl, rfl⟩
    | 4, _ => exact ⟨_, rfl, rfl, rfl⟩
    | 5, _ => exact ⟨_, rfl, rfl, rfl⟩
    | 6, _ => exact ⟨_, rfl, rfl, rfl⟩
    | 7, _ => exact ⟨_, rfl, rfl, rfl⟩
    | 8, _ => exact ⟨_, rfl, rfl, rfl⟩
theorem own1 : obs1.all (fun o => !o.own) = true := rfl
end Go.Den
