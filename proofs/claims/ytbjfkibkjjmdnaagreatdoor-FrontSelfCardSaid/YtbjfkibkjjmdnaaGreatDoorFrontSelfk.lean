/-
  A part of the proof: closed facts of the row, each by itself.
-/
import Derived.Test.YtbjfkibkjjmdnaaGreatDoorRows
import Derived.Test.YtbjfkibkjjmdnaaGreatDoorProg
import Derived.JoinedOf
import Derived.KernelRfl
import Derived.Lay
import Derived.ProofKit
import Derived.WalkKit
import Derived.SevenTiedAt
namespace Go.Proofs.YtbjfkibkjjmdnaaGreatDoor
set_option maxRecDepth 100000
theorem k1 : (Rows.frontSelfRow.wf (OpenSpec.ofChange Rows.frontSelfSpec)) = true := by kernel_rfl
theorem k2 : (laidOutB Tryz.pinned.checked.prog) = true := by kernel_rfl
theorem k3 : (mapsRowed Tryz.pinned.checked.prog) = true := by kernel_rfl
theorem k4 : (Tryz.f4.params.all (Tryz.pinned.checked.prog.readableRec ·)) = true := by kernel_rfl
theorem k5 : (namedTie Tryz.pinned.checked.prog Rows.frontSelfRow.named Rows.frontSelfSpec.vars) = true := by kernel_rfl
theorem k6 : ((Rows.frontSelfRow.stops == [])) = true := by kernel_rfl
theorem k7 : ((Tryz.pinned.checked.prog.stops == [])) = true := by kernel_rfl
theorem k8 : ((Rows.frontSelfRow.knobs == [])) = true := by kernel_rfl
theorem k9 : ((Tryz.pinned.checked.prog.stopKnobs == [])) = true := by kernel_rfl
theorem k10 : ((Rows.frontSelfRow.inPlace == Tryz.pinned.checked.prog.inPlace 4)) = true := by kernel_rfl
theorem k11 : ((Rows.frontSelfRow.unfollowed == Tryz.pinned.checked.prog.unfollowed 4)) = true := by kernel_rfl
theorem k12 : ((Rows.frontSelfRow.recurses == Tryz.pinned.checked.prog.recurses 4)) = true := by kernel_rfl
theorem k13 : ((Rows.frontSelfRow.named == Tryz.pinned.checked.prog.varsNamed 4)) = true := by kernel_rfl
theorem k14 : ((Rows.frontSelfRow.maps == (Tryz.f4.params.toList ++ Rows.frontSelfSpec.plain.varTypes Tryz.pinned.checked.prog).any (Tryz.pinned.checked.prog.mapsRec ·))) = true := by kernel_rfl
theorem k15 : ((Rows.frontSelfRow.ifaces == (Tryz.f4.params.toList ++ Rows.frontSelfSpec.plain.varTypes Tryz.pinned.checked.prog).any (Tryz.pinned.checked.prog.ifacesRec ·))) = true := by kernel_rfl
theorem k16 : ((Rows.frontSelfRow.mapsOut == Tryz.pinned.checked.prog.mapsAmong Tryz.f4.resultTypes.toList)) = true := by kernel_rfl
theorem k17 : ((Rows.frontSelfRow.loops == (Tryz.f4.params.toList ++ Rows.frontSelfSpec.plain.varTypes Tryz.pinned.checked.prog).any (Tryz.pinned.checked.prog.loopsFrom ·))) = true := by kernel_rfl
theorem k18 : ((Rows.frontSelfRow.wideKeys == (Tryz.f4.params.toList ++ Rows.frontSelfSpec.plain.varTypes Tryz.pinned.checked.prog ++ Tryz.f4.resultTypes.toList).any (Tryz.pinned.checked.prog.wideKeysFrom ·))) = true := by kernel_rfl
theorem k19 : (Rows.frontSelfSpec.vars.all (Tryz.pinned.checked.prog.varReadable ·)) = true := by kernel_rfl
theorem k20 : (Tryz.f4.resultTypes.all (fun t => Tryz.pinned.checked.prog.readableRec t && decide (t < Tryz.pinned.checked.prog.types.size))) = true := by kernel_rfl
theorem k21 : ((Rows.frontSelfRow.ifacesOut == Tryz.f4.resultTypes.toList.any (Tryz.pinned.checked.prog.ifacesRec ·))) = true := by kernel_rfl
theorem k22 : ((Rows.frontSelfRow.loopsOut == Tryz.f4.resultTypes.toList.any (Tryz.pinned.checked.prog.loopsFrom ·))) = true := by kernel_rfl
theorem k23 : ((Rows.frontSelfRow.plainKeys == Tryz.pinned.checked.prog.plainKeys)) = true := by kernel_rfl
theorem k24 : (Rows.frontSelfRow.shortTexts.isNone) = true := by kernel_rfl
theorem k25 : (Tryz.pinned.checked.prog.stopsHeard) = true := by kernel_rfl
theorem k26 : (Tryz.pinned.checked.prog.mayEnter) = true := by kernel_rfl
theorem k27 : ((Rows.frontSelfRow.lifted == Tryz.pinned.checked.prog.liftsFinal)) = true := by kernel_rfl
theorem k28 : ((Tryz.pinned.checked.prog.make == some Rows.frontSelfRow.make)) = true := by kernel_rfl
theorem k29 : ((Rows.frontSelfRow.kinds == (if Rows.frontSelfRow.domain.isEmpty then [] else Tryz.f4.params.toList.map fun t => match Tryz.pinned.checked.prog.underlying t with | some (.int k) => some k | _ => none))) = true := by kernel_rfl
theorem k30 : ((Rows.frontSelfRow.pinned == Rows.frontSelfRow.pinnedBy)) = true := by kernel_rfl
theorem k31 : ((Rows.frontSelfRow.veiled == (Tryz.f4.params.toList ++ Rows.frontSelfSpec.plain.varTypes Tryz.pinned.checked.prog ++ Tryz.f4.resultTypes.toList).any (Tryz.pinned.checked.prog.veiledRec ·))) = true := by kernel_rfl
theorem k32 : (Rows.frontSelfRow.veiledFits Tryz.pinned.checked.prog Tryz.f4.params.toList (Tryz.f4.params.toList ++ Rows.frontSelfSpec.plain.varTypes Tryz.pinned.checked.prog ++ Tryz.f4.resultTypes.toList)) = true := by kernel_rfl
theorem closed : joinedFacts Tryz.pinned.checked.prog 4 Tryz.f4 Rows.frontSelfSpec Rows.frontSelfRow = true := by
  unfold joinedFacts
  simp only [Bool.and_eq_true]
  exact ⟨⟨⟨⟨⟨⟨⟨⟨⟨⟨⟨⟨⟨⟨⟨⟨⟨⟨⟨⟨⟨⟨⟨⟨⟨⟨⟨⟨⟨⟨⟨k1, k2⟩, k3⟩, k4⟩, k5⟩, k6⟩, k7⟩, k8⟩, k9⟩, k10⟩, k11⟩, k12⟩, k13⟩, k14⟩, k15⟩, k16⟩, k17⟩, k18⟩, k19⟩, k20⟩, k21⟩, k22⟩, k23⟩, k24⟩, k25⟩, k26⟩, k27⟩, k28⟩, k29⟩, k30⟩, k31⟩, k32⟩
theorem kfn : Tryz.pinned.checked.prog.funcNamed Rows.frontSelfRow.func = some 4 := by kernel_rfl
theorem kin : Tryz.f4.isInstance Tryz.pinned.checked.prog Rows.frontSelfRow.origin Rows.frontSelfRow.targs := of_decide_eq_true (by kernel_rfl)
theorem kwr : Tryz.f4.isWrapper Tryz.pinned.checked.prog Rows.frontSelfRow.wrapper Rows.frontSelfRow.mainSum := by unfold Func.isWrapper; first | (rw [if_pos (by decide +kernel)]; kernel_rfl) | (rw [if_neg (by decide +kernel)]; exact ⟨rfl, rfl⟩)
theorem kwf : Rows.frontSelfRow.wfByText (OpenSpec.ofChange Rows.frontSelfSpec) = true := by kernel_rfl
theorem kmi : Tryz.pinned.checked.prog.mainIs = some (true, "42132176359eb312c9846b0473b023c2c07f0d104e0109a4f2beb4385236f400".toList) := by kernel_rfl
theorem klk : true = Tryz.pinned.checked.prog.looks [] := by kernel_rfl
theorem kgo : false = Rows.frontSelfRow.goesBy Tryz.pinned.checked.prog := by kernel_rfl
theorem ksi : (Tryz.f4.params.toList.all fun u => !Tryz.prog.wantsStandIn u) = true := by kernel_rfl
theorem kna : Tryz.prog.funcNamed "oxbow/oxbowlaw16.FrontSelf" = some 4 := by kernel_rfl
theorem own : ownKnob Tryz.prog.godebug = none := by kernel_rfl
theorem laidOut : laidOutB Tryz.prog = true := by kernel_rfl
end Go.Proofs.YtbjfkibkjjmdnaaGreatDoor
