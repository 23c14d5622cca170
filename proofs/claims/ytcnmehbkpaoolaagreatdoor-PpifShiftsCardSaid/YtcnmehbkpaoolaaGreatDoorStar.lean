/-
  A part of the proof.
-/
import Derived.Test.YtcnmehbkpaoolaaGreatDoorLaid
import Derived.Test.YtcnmehbkpaoolaaGreatDoorRows
import Derived.Stop.LaidErr
import Derived.Lib.LaidU8
import Derived.MakeChecks
import Derived.RowKitTokens
noncomputable section
namespace Go.Den
open Go.RowKit Go.ChangeShapes
set_option maxRecDepth 100000
theorem star : "*" ++ "errors.errorString" = "*errors.errorString" := by decide
theorem A0u (u : TypeId) (h : PP.typeName? 3 u = some "*errors.errorString") : u = 414 :=
  typeName_ptr_named (nm := "errors.errorString") (by rw [star]; kernel_rfl) (by kernel_rfl) (by decide) u (by rw [star]; exact h)
abbrev Aib : List (String × DataW Unit) := Proofs.YtcnmehbkpaoolaaGreatDoor.Rows.ppifSkipsRow.laid
theorem Aq8 {W : World} (hL : laidMetH PP Aib W) : laidMet PP Aib W := by
  rw [MakeChecks.laidMetH_plain _ _ _ (by kernel_rfl)] at hL
  exact hL
theorem Awq {W : World} (hL : laidMetH PP Aib W) : ∃ a : Addr, W.var? PP "strconv.ErrRange" = some #[.iface 414 (.pointer (some a))] ∧ a.spot = none := by
  have hL := Aq8 hL
  obtain ⟨a, s, h1, h2, _, _⟩ := laid_sentinel (g := 6) (ti := 151) (tp := 414) (te := 416) (ts := 9) hL.tail.tail.tail.tail (by kernel_rfl) (by kernel_rfl) Proofs.Tryz.underlying151 A0u Proofs.Tryz.underlying414 Proofs.Tryz.underlying416 rfl rfl Proofs.Tryz.underlying9 (by kernel_rfl) (by kernel_rfl)
  refine ⟨a, h1, ?_⟩
  unfold World.cell? at h2
  cases hb : W.heap[a.block]? with
  | none => rw [hb] at h2; cases h2
  | some o =>
    rw [hb] at h2
    cases o <;> simp at h2
    exact h2.1
theorem Atj {W : World} {n : String} {g : Nat} {cs : Array Value} (hg : PP.globalNamed n = some g) (hv : W.var? PP n = some cs) : ∃ e fz, W.heap[g]? = some (.cells cs e fz) := by
  unfold World.var? at hv
  rw [hg] at hv
  simp only [Option.bind_some] at hv
  cases hb : W.heap[g]? with
  | none => rw [hb] at hv; cases hv
  | some o =>
    rw [hb] at hv
    cases o <;> simp at hv
    subst hv
    exact ⟨_, _, rfl⟩
theorem Mw {W : World} (hL : laidMetH PP Aib W) : ∃ L, Sim (mu0 L) h1 W ∧ Fp (mu0 L) G := by
  obtain ⟨a, hv, hsp⟩ := Awq hL
  obtain ⟨e6, fz6, hb6⟩ := Atj (by kernel_rfl) hv
  refine ⟨[⟨0, 0, 0⟩, ⟨1, 0, 0⟩, ⟨2, 0, 0⟩, ⟨3, 0, 0⟩, ⟨4, 0, 0⟩, ⟨5, 0, 0⟩, ⟨6, 0, 1⟩, ⟨7, 0, 0⟩, ⟨8, 0, 0⟩, ⟨9, 0, 0⟩, ⟨10, 0, 0⟩, ⟨11, 0, 0⟩, ⟨a.block, a.off, 0⟩], ?_, ?_⟩
  · refine Af0 rfl rfl fun i o c h1 h2 => ?_
    have dead : ∀ μ : Mu, o = .dead → ObR μ W c o := fun μ e => by subst e; trivial
    match i, h1, h2 with
    | 6, h1, h2 =>
      cases h1; cases h2
      refine ⟨_, e6, fz6, hb6, rfl, Nat.le_refl 1, fun j hj => ?_⟩
      have : j = 0 := by omega
      subst this
      refine ⟨_, rfl, ⟨_, rfl, ⟨a.block, a.off, 0⟩, ?_, ?_⟩, rfl⟩
      · show ([_, _, _, _, _, _, _, _, _, _, _, _, _] : List Loc)[(pOf 12).nat]? = _
        rw [Ei]; rfl
      · show Value.pointer (some a) = .pointer (some ⟨a.block, a.off + 0, none⟩)
        rw [← hsp]; rfl
    | 0, h1, _ | 1, h1, _ | 2, h1, _ | 3, h1, _ | 4, h1, _ | 5, h1, _ | 7, h1, _ | 8, h1, _ | 9, h1, _ | 10, h1, _ | 11, h1, _ | 12, h1, _ => exact dead _ (Option.some.inj h1).symm
    | i + 13, h1, _ => cases h1
  · refine Zg fun g hg => ?_
    have hg : g < 12 := hg
    match g, hg with
    | 0, _ | 1, _ | 2, _ | 3, _ | 4, _ | 5, _ | 6, _ | 7, _ | 8, _ | 9, _ | 10, _ | 11, _ => exact ⟨_, rfl, rfl, rfl⟩
theorem Avt : A91.all (fun o => !o.own) = true := rfl
end Go.Den
