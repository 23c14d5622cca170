/-
 Facts.
-/
import Derived.Test.YtcnmehbkpaoolaaGreatDoorRows
import Derived.Test.YtcnmehbkpaoolaaGreatDoorProg
import Derived.JoinedOf
import Derived.KernelRfl
import Derived.Lay
import Derived.ProofKit
import Derived.WalkKit
import Derived.SevenTiedAt
namespace Go.Proofs.YtcnmehbkpaoolaaGreatDoor
set_option maxRecDepth 100000
noncomputable abbrev PG := Tryz.pinned.checked.prog
theorem k1 : (Rows.convertStringsRow.wf (OpenSpec.ofChange Rows.convertStringsSpec)) = true := by kernel_rfl
theorem k2 : (laidOutB PG) = true := by kernel_rfl
theorem k3 : (mapsRowed PG) = true := by kernel_rfl
theorem k4 : (Tryz.f5.params.all (PG.readableRec ·)) = true := by kernel_rfl
theorem k5 : (namedTie PG Rows.convertStringsRow.named Rows.convertStringsSpec.vars) = true := by kernel_rfl
theorem k6 : ((Rows.convertStringsRow.stops == [])) = true := by kernel_rfl
theorem k7 : ((PG.stops == [])) = true := by kernel_rfl
theorem k8 : ((Rows.convertStringsRow.knobs == [])) = true := by kernel_rfl
theorem k9 : ((PG.stopKnobs == [])) = true := by kernel_rfl
theorem k10 : ((Rows.convertStringsRow.inPlace == PG.inPlace 5)) = true := by kernel_rfl
theorem k11 : ((Rows.convertStringsRow.unfollowed == PG.unfollowed 5)) = true := by kernel_rfl
theorem k12 : ((Rows.convertStringsRow.recurses == PG.recurses 5)) = true := by kernel_rfl
theorem k13 : ((Rows.convertStringsRow.named == PG.varsNamed 5)) = true := by kernel_rfl
theorem k14 : ((Rows.convertStringsRow.maps == (Tryz.f5.params.toList ++ Rows.convertStringsSpec.plain.varTypes PG).any (PG.mapsRec ·))) = true := by kernel_rfl
theorem k15 : ((Rows.convertStringsRow.ifaces == (Tryz.f5.params.toList ++ Rows.convertStringsSpec.plain.varTypes PG).any (PG.ifacesRec ·))) = true := by kernel_rfl
theorem k16 : ((Rows.convertStringsRow.mapsOut == PG.mapsAmong Tryz.f5.resultTypes.toList)) = true := by kernel_rfl
theorem k17 : ((Rows.convertStringsRow.loops == (Tryz.f5.params.toList ++ Rows.convertStringsSpec.plain.varTypes PG).any (PG.loopsFrom ·))) = true := by kernel_rfl
theorem k18 : ((Rows.convertStringsRow.wideKeys == (Tryz.f5.params.toList ++ Rows.convertStringsSpec.plain.varTypes PG ++ Tryz.f5.resultTypes.toList).any (PG.wideKeysFrom ·))) = true := by kernel_rfl
theorem k19 : (Rows.convertStringsSpec.vars.all (PG.varReadable ·)) = true := by kernel_rfl
theorem k20 : (Tryz.f5.resultTypes.all (fun t => PG.readableRec t && decide (t < PG.types.size))) = true := by kernel_rfl
theorem k21 : ((Rows.convertStringsRow.ifacesOut == Tryz.f5.resultTypes.toList.any (PG.ifacesRec ·))) = true := by kernel_rfl
theorem k22 : ((Rows.convertStringsRow.loopsOut == Tryz.f5.resultTypes.toList.any (PG.loopsFrom ·))) = true := by kernel_rfl
theorem k23 : ((Rows.convertStringsRow.plainKeys == PG.plainKeys)) = true := by kernel_rfl
theorem k24 : (Rows.convertStringsRow.shortTexts.isNone) = true := by kernel_rfl
theorem k25 : (PG.stopsHeard) = true := by kernel_rfl
theorem k26 : (PG.mayEnter) = true := by kernel_rfl
theorem k27 : ((Rows.convertStringsRow.lifted == PG.liftsFinal)) = true := by kernel_rfl
theorem k28 : ((PG.make == some Rows.convertStringsRow.make)) = true := by kernel_rfl
theorem k29 : ((Rows.convertStringsRow.kinds == (if Rows.convertStringsRow.domain.isEmpty then [] else Tryz.f5.params.toList.map fun t => match PG.underlying t with | some (.int k) => some k | _ => none))) = true := by kernel_rfl
theorem k30 : ((Rows.convertStringsRow.pinned == Rows.convertStringsRow.pinnedBy)) = true := by kernel_rfl
theorem k31 : ((Rows.convertStringsRow.veiled == (Tryz.f5.params.toList ++ Rows.convertStringsSpec.plain.varTypes PG ++ Tryz.f5.resultTypes.toList).any (PG.veiledRec ·))) = true := by kernel_rfl
theorem k32 : (Rows.convertStringsRow.veiledFits PG Tryz.f5.params.toList (Tryz.f5.params.toList ++ Rows.convertStringsSpec.plain.varTypes PG ++ Tryz.f5.resultTypes.toList)) = true := by kernel_rfl
theorem closed : joinedFacts PG 5 Tryz.f5 Rows.convertStringsSpec Rows.convertStringsRow = true := by
 unfold joinedFacts
 simp only [Bool.and_eq_true]
 exact ⟨⟨⟨⟨⟨⟨⟨⟨⟨⟨⟨⟨⟨⟨⟨⟨⟨⟨⟨⟨⟨⟨⟨⟨⟨⟨⟨⟨⟨⟨⟨k1, k2⟩, k3⟩, k4⟩, k5⟩, k6⟩, k7⟩, k8⟩, k9⟩, k10⟩, k11⟩, k12⟩, k13⟩, k14⟩, k15⟩, k16⟩, k17⟩, k18⟩, k19⟩, k20⟩, k21⟩, k22⟩, k23⟩, k24⟩, k25⟩, k26⟩, k27⟩, k28⟩, k29⟩, k30⟩, k31⟩, k32⟩
theorem kfn : PG.funcNamed Rows.convertStringsRow.func = some 5 := by kernel_rfl
theorem kin : Tryz.f5.isInstance PG Rows.convertStringsRow.origin Rows.convertStringsRow.targs := of_decide_eq_true (by kernel_rfl)
theorem kwr : Tryz.f5.isWrapper PG Rows.convertStringsRow.wrapper Rows.convertStringsRow.mainSum := by unfold Func.isWrapper; first | (rw [if_pos (by decide +kernel)]; kernel_rfl) | (rw [if_neg (by decide +kernel)]; exact ⟨rfl, rfl⟩)
theorem kwf : Rows.convertStringsRow.wfByText (OpenSpec.ofChange Rows.convertStringsSpec) = true := by kernel_rfl
theorem kmi : PG.mainIs = some (true, "5157361bb7081c3e38638691101a97ca0e18c869a36b86cebd350c8c40e65bb3".toList) := by kernel_rfl
theorem klk : true = PG.looks [] := by kernel_rfl
theorem kgo : false = Rows.convertStringsRow.goesBy PG := by kernel_rfl
theorem ksi : (Tryz.f5.params.toList.all fun u => !Tryz.prog.wantsStandIn u) = true := by kernel_rfl
theorem kna : Tryz.prog.funcNamed "oxbow/oxbowlaw17.ConvertStrings" = some 5 := by kernel_rfl
theorem own : ownKnob Tryz.prog.godebug = none := by kernel_rfl
theorem laidOut : laidOutB Tryz.prog = true := by kernel_rfl
end Go.Proofs.YtcnmehbkpaoolaaGreatDoor
