/-
 Part of the proof.
-/
import Derived.Test.YtcnmehbkpaoolaaGreatDoorLaid
import Derived.Test.YtcnmehbkpaoolaaGreatDoorRows
import Derived.Stop.LaidErr
import Derived.Lib.LaidU8
import Derived.MakeChecks
import Derived.RowKitTokens
noncomputable section
namespace Go.Den
open Go.RowKit Go.ChangeShapes
set_option maxRecDepth 100000
theorem star : "*" ++ "errors.errorString" = "*errors.errorString" := by decide
theorem A3h (u : TypeId) (h : PP.typeName? 3 u = some "*errors.errorString") : u = 414 :=
 typeName_ptr_named (nm := "errors.errorString") (by rw [star]; kernel_rfl) (by kernel_rfl) (by decide) u (by rw [star]; exact h)
abbrev Aj6 : List (String × DataW Unit) := Proofs.YtcnmehbkpaoolaaGreatDoor.Rows.convertStringsRow.laid
theorem Aiv {W : World} (hL : laidMetH PP Aj6 W) : laidMet PP Aj6 W := by
 rw [MakeChecks.laidMetH_plain _ _ _ (by kernel_rfl)] at hL
 exact hL
theorem Az7 {W : World} (hL : laidMetH PP Aj6 W) : ∃ a : Addr, W.var? PP "strconv.ErrRange" = some #[.iface 414 (.pointer (some a))] ∧ a.spot = none := by
 have hL := Aiv hL
 obtain ⟨a, s, h1, h2, _, _⟩ := laid_sentinel (g := 6) (ti := 151) (tp := 414) (te := 416) (ts := 9) hL.tail.tail.tail.tail (by kernel_rfl) (by kernel_rfl) Proofs.Tryz.underlying151 A3h Proofs.Tryz.underlying414 Proofs.Tryz.underlying416 rfl rfl Proofs.Tryz.underlying9 (by kernel_rfl) (by kernel_rfl)
 refine ⟨a, h1, ?_⟩
 unfold World.cell? at h2
 cases hb : W.heap[a.block]? with
 | none => rw [hb] at h2; cases h2
 | some o =>
  rw [hb] at h2
  cases o <;> simp at h2
  exact h2.1
def Adm : List Int := (List.range 256).map fun i => ((Akm i : Nat) : Int)
theorem Akl : Proofs.YtcnmehbkpaoolaaGreatDoor.Rows.laid_strings_asciiSpace (H := Unit) = Lib.tabData .u8 Adm := by kernel_rfl
theorem Apr {W : World} (hL : laidMetH PP Aj6 W) : ∃ cs : Array Value, W.var? PP "strings.asciiSpace" = some cs ∧ cs.toList = Adm.map fun z => Value.int .u8 z := by
 have hL := Aiv hL
 obtain ⟨g, t, cs, fuel, p, hg, hty, hvar, hd⟩ := Lib.laidMet.reads hL (n := "strings.asciiSpace") (d := Proofs.YtcnmehbkpaoolaaGreatDoor.Rows.laid_strings_asciiSpace) (List.getElem_mem (l := Aj6) (n := 7) (by decide))
 obtain rfl := Option.some.inj ((show PP.globalNamed "strings.asciiSpace" = some 0 by kernel_rfl).symm.trans hg)
 obtain rfl := Option.some.inj ((show (PP.globals[0]?).map (·.type) = some 236 by kernel_rfl).symm.trans hty)
 rw [Akl] at hd
 exact ⟨cs, hvar, Lib.cells_of_tab Proofs.Tryz.underlying236 Proofs.Tryz.underlying5 (by kernel_rfl) (by kernel_rfl) hd⟩
theorem Ajt {W : World} {n : String} {g : Nat} {cs : Array Value} (hg : PP.globalNamed n = some g) (hv : W.var? PP n = some cs) : ∃ e fz, W.heap[g]? = some (.cells cs e fz) := by
 unfold World.var? at hv
 rw [hg] at hv
 simp only [Option.bind_some] at hv
 cases hb : W.heap[g]? with
 | none => rw [hb] at hv; cases hv
 | some o =>
  rw [hb] at hv
  cases o <;> simp at hv
  subst hv
  exact ⟨_, _, rfl⟩
end Go.Den
