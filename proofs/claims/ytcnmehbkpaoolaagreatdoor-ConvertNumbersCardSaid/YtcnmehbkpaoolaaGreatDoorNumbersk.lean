/-
 Facts.
-/
import Derived.Test.YtcnmehbkpaoolaaGreatDoorRows
import Derived.Test.YtcnmehbkpaoolaaGreatDoorProg
import Derived.JoinedOf
import Derived.KernelRfl
import Derived.Lay
import Derived.ProofKit
import Derived.WalkKit
import Derived.SevenTiedAt
namespace Go.Proofs.YtcnmehbkpaoolaaGreatDoor
set_option maxRecDepth 100000
theorem k1 : (Rows.convertNumbersRow.wf (OpenSpec.ofChange Rows.convertNumbersSpec)) = true := by kernel_rfl
theorem k2 : (laidOutB Tryz.pinned.checked.prog) = true := by kernel_rfl
theorem k3 : (mapsRowed Tryz.pinned.checked.prog) = true := by kernel_rfl
theorem k4 : (Tryz.f7.params.all (Tryz.pinned.checked.prog.readableRec ·)) = true := by kernel_rfl
theorem k5 : (namedTie Tryz.pinned.checked.prog Rows.convertNumbersRow.named Rows.convertNumbersSpec.vars) = true := by kernel_rfl
theorem k6 : ((Rows.convertNumbersRow.stops == [])) = true := by kernel_rfl
theorem k7 : ((Tryz.pinned.checked.prog.stops == [])) = true := by kernel_rfl
theorem k8 : ((Rows.convertNumbersRow.knobs == [])) = true := by kernel_rfl
theorem k9 : ((Tryz.pinned.checked.prog.stopKnobs == [])) = true := by kernel_rfl
theorem k10 : ((Rows.convertNumbersRow.inPlace == Tryz.pinned.checked.prog.inPlace 7)) = true := by kernel_rfl
theorem k11 : ((Rows.convertNumbersRow.unfollowed == Tryz.pinned.checked.prog.unfollowed 7)) = true := by kernel_rfl
theorem k12 : ((Rows.convertNumbersRow.recurses == Tryz.pinned.checked.prog.recurses 7)) = true := by kernel_rfl
theorem k13 : ((Rows.convertNumbersRow.named == Tryz.pinned.checked.prog.varsNamed 7)) = true := by kernel_rfl
theorem k14 : ((Rows.convertNumbersRow.maps == (Tryz.f7.params.toList ++ Rows.convertNumbersSpec.plain.varTypes Tryz.pinned.checked.prog).any (Tryz.pinned.checked.prog.mapsRec ·))) = true := by kernel_rfl
theorem k15 : ((Rows.convertNumbersRow.ifaces == (Tryz.f7.params.toList ++ Rows.convertNumbersSpec.plain.varTypes Tryz.pinned.checked.prog).any (Tryz.pinned.checked.prog.ifacesRec ·))) = true := by kernel_rfl
theorem k16 : ((Rows.convertNumbersRow.mapsOut == Tryz.pinned.checked.prog.mapsAmong Tryz.f7.resultTypes.toList)) = true := by kernel_rfl
theorem k17 : ((Rows.convertNumbersRow.loops == (Tryz.f7.params.toList ++ Rows.convertNumbersSpec.plain.varTypes Tryz.pinned.checked.prog).any (Tryz.pinned.checked.prog.loopsFrom ·))) = true := by kernel_rfl
theorem k18 : ((Rows.convertNumbersRow.wideKeys == (Tryz.f7.params.toList ++ Rows.convertNumbersSpec.plain.varTypes Tryz.pinned.checked.prog ++ Tryz.f7.resultTypes.toList).any (Tryz.pinned.checked.prog.wideKeysFrom ·))) = true := by kernel_rfl
theorem k19 : (Rows.convertNumbersSpec.vars.all (Tryz.pinned.checked.prog.varReadable ·)) = true := by kernel_rfl
theorem k20 : (Tryz.f7.resultTypes.all (fun t => Tryz.pinned.checked.prog.readableRec t && decide (t < Tryz.pinned.checked.prog.types.size))) = true := by kernel_rfl
theorem k21 : ((Rows.convertNumbersRow.ifacesOut == Tryz.f7.resultTypes.toList.any (Tryz.pinned.checked.prog.ifacesRec ·))) = true := by kernel_rfl
theorem k22 : ((Rows.convertNumbersRow.loopsOut == Tryz.f7.resultTypes.toList.any (Tryz.pinned.checked.prog.loopsFrom ·))) = true := by kernel_rfl
theorem k23 : ((Rows.convertNumbersRow.plainKeys == Tryz.pinned.checked.prog.plainKeys)) = true := by kernel_rfl
theorem k24 : (Rows.convertNumbersRow.shortTexts.isNone) = true := by kernel_rfl
theorem k25 : (Tryz.pinned.checked.prog.stopsHeard) = true := by kernel_rfl
theorem k26 : (Tryz.pinned.checked.prog.mayEnter) = true := by kernel_rfl
theorem k27 : ((Rows.convertNumbersRow.lifted == Tryz.pinned.checked.prog.liftsFinal)) = true := by kernel_rfl
theorem k28 : ((Tryz.pinned.checked.prog.make == some Rows.convertNumbersRow.make)) = true := by kernel_rfl
theorem k29 : ((Rows.convertNumbersRow.kinds == (if Rows.convertNumbersRow.domain.isEmpty then [] else Tryz.f7.params.toList.map fun t => match Tryz.pinned.checked.prog.underlying t with | some (.int k) => some k | _ => none))) = true := by kernel_rfl
theorem k30 : ((Rows.convertNumbersRow.pinned == Rows.convertNumbersRow.pinnedBy)) = true := by kernel_rfl
theorem k31 : ((Rows.convertNumbersRow.veiled == (Tryz.f7.params.toList ++ Rows.convertNumbersSpec.plain.varTypes Tryz.pinned.checked.prog ++ Tryz.f7.resultTypes.toList).any (Tryz.pinned.checked.prog.veiledRec ·))) = true := by kernel_rfl
theorem k32 : (Rows.convertNumbersRow.veiledFits Tryz.pinned.checked.prog Tryz.f7.params.toList (Tryz.f7.params.toList ++ Rows.convertNumbersSpec.plain.varTypes Tryz.pinned.checked.prog ++ Tryz.f7.resultTypes.toList)) = true := by kernel_rfl
theorem closed : joinedFacts Tryz.pinned.checked.prog 7 Tryz.f7 Rows.convertNumbersSpec Rows.convertNumbersRow = true := by
 unfold joinedFacts
 simp only [Bool.and_eq_true]
 exact ⟨⟨⟨⟨⟨⟨⟨⟨⟨⟨⟨⟨⟨⟨⟨⟨⟨⟨⟨⟨⟨⟨⟨⟨⟨⟨⟨⟨⟨⟨⟨k1, k2⟩, k3⟩, k4⟩, k5⟩, k6⟩, k7⟩, k8⟩, k9⟩, k10⟩, k11⟩, k12⟩, k13⟩, k14⟩, k15⟩, k16⟩, k17⟩, k18⟩, k19⟩, k20⟩, k21⟩, k22⟩, k23⟩, k24⟩, k25⟩, k26⟩, k27⟩, k28⟩, k29⟩, k30⟩, k31⟩, k32⟩
theorem kfn : Tryz.pinned.checked.prog.funcNamed Rows.convertNumbersRow.func = some 7 := by kernel_rfl
theorem kin : Tryz.f7.isInstance Tryz.pinned.checked.prog Rows.convertNumbersRow.origin Rows.convertNumbersRow.targs := of_decide_eq_true (by kernel_rfl)
theorem kwr : Tryz.f7.isWrapper Tryz.pinned.checked.prog Rows.convertNumbersRow.wrapper Rows.convertNumbersRow.mainSum := by unfold Func.isWrapper; first | (rw [if_pos (by decide +kernel)]; kernel_rfl) | (rw [if_neg (by decide +kernel)]; exact ⟨rfl, rfl⟩)
theorem kwf : Rows.convertNumbersRow.wfByText (OpenSpec.ofChange Rows.convertNumbersSpec) = true := by kernel_rfl
theorem kmi : Tryz.pinned.checked.prog.mainIs = some (true, "5157361bb7081c3e38638691101a97ca0e18c869a36b86cebd350c8c40e65bb3".toList) := by kernel_rfl
theorem klk : true = Tryz.pinned.checked.prog.looks [] := by kernel_rfl
theorem kgo : false = Rows.convertNumbersRow.goesBy Tryz.pinned.checked.prog := by kernel_rfl
theorem ksi : (Tryz.f7.params.toList.all fun u => !Tryz.prog.wantsStandIn u) = true := by kernel_rfl
theorem kna : Tryz.prog.funcNamed "oxbow/oxbowlaw17.ConvertNumbers" = some 7 := by kernel_rfl
theorem own : ownKnob Tryz.prog.godebug = none := by kernel_rfl
theorem laidOut : laidOutB Tryz.prog = true := by kernel_rfl
end Go.Proofs.YtcnmehbkpaoolaaGreatDoor
