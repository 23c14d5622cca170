/-
 A part of the proof: closed facts of the row, each by itself.
-/
import Derived.Test.YtcnmehbkpaoolaaGreatDoorRows
import Derived.Test.YtcnmehbkpaoolaaGreatDoorProg
import Derived.JoinedOf
import Derived.KernelRfl
import Derived.Lay
import Derived.ProofKit
import Derived.WalkKit
import Derived.SevenTiedAt
namespace Go.Proofs.YtcnmehbkpaoolaaGreatDoor
set_option maxRecDepth 100000
theorem k1:(Rows.ppifEvalRow.wf (OpenSpec.ofChange Rows.ppifEvalSpec))=true:=by kernel_rfl
theorem k2:(laidOutB Tryz.pinned.checked.prog)=true:=by kernel_rfl
theorem k3:(mapsRowed Tryz.pinned.checked.prog)=true:=by kernel_rfl
theorem k4:(Tryz.f8.params.all (Tryz.pinned.checked.prog.readableRec ·))=true:=by kernel_rfl
theorem k5:(namedTie Tryz.pinned.checked.prog Rows.ppifEvalRow.named Rows.ppifEvalSpec.vars)=true:=by kernel_rfl
theorem k6:((Rows.ppifEvalRow.stops==[]))=true:=by kernel_rfl
theorem k7:((Tryz.pinned.checked.prog.stops==[]))=true:=by kernel_rfl
theorem k8:((Rows.ppifEvalRow.knobs==[]))=true:=by kernel_rfl
theorem k9:((Tryz.pinned.checked.prog.stopKnobs==[]))=true:=by kernel_rfl
theorem k10:((Rows.ppifEvalRow.inPlace==Tryz.pinned.checked.prog.inPlace 8))=true:=by kernel_rfl
theorem k11:((Rows.ppifEvalRow.unfollowed==Tryz.pinned.checked.prog.unfollowed 8))=true:=by kernel_rfl
theorem k12:((Rows.ppifEvalRow.recurses==Tryz.pinned.checked.prog.recurses 8))=true:=by kernel_rfl
theorem k13:((Rows.ppifEvalRow.named==Tryz.pinned.checked.prog.varsNamed 8))=true:=by kernel_rfl
theorem k14:((Rows.ppifEvalRow.maps==(Tryz.f8.params.toList++Rows.ppifEvalSpec.plain.varTypes Tryz.pinned.checked.prog).any (Tryz.pinned.checked.prog.mapsRec ·)))=true:=by kernel_rfl
theorem k15:((Rows.ppifEvalRow.ifaces==(Tryz.f8.params.toList++Rows.ppifEvalSpec.plain.varTypes Tryz.pinned.checked.prog).any (Tryz.pinned.checked.prog.ifacesRec ·)))=true:=by kernel_rfl
theorem k16:((Rows.ppifEvalRow.mapsOut==Tryz.pinned.checked.prog.mapsAmong Tryz.f8.resultTypes.toList))=true:=by kernel_rfl
theorem k17:((Rows.ppifEvalRow.loops==(Tryz.f8.params.toList++Rows.ppifEvalSpec.plain.varTypes Tryz.pinned.checked.prog).any (Tryz.pinned.checked.prog.loopsFrom ·)))=true:=by kernel_rfl
theorem k18:((Rows.ppifEvalRow.wideKeys==(Tryz.f8.params.toList++Rows.ppifEvalSpec.plain.varTypes Tryz.pinned.checked.prog++Tryz.f8.resultTypes.toList).any (Tryz.pinned.checked.prog.wideKeysFrom ·)))=true:=by kernel_rfl
theorem k19:(Rows.ppifEvalSpec.vars.all (Tryz.pinned.checked.prog.varReadable ·))=true:=by kernel_rfl
theorem k20:(Tryz.f8.resultTypes.all (fun t=>Tryz.pinned.checked.prog.readableRec t&&decide (t<Tryz.pinned.checked.prog.types.size)))=true:=by kernel_rfl
theorem k21:((Rows.ppifEvalRow.ifacesOut==Tryz.f8.resultTypes.toList.any (Tryz.pinned.checked.prog.ifacesRec ·)))=true:=by kernel_rfl
theorem k22:((Rows.ppifEvalRow.loopsOut==Tryz.f8.resultTypes.toList.any (Tryz.pinned.checked.prog.loopsFrom ·)))=true:=by kernel_rfl
theorem k23:((Rows.ppifEvalRow.plainKeys==Tryz.pinned.checked.prog.plainKeys))=true:=by kernel_rfl
theorem k24:(Rows.ppifEvalRow.shortTexts.isNone)=true:=by kernel_rfl
theorem k25:(Tryz.pinned.checked.prog.stopsHeard)=true:=by kernel_rfl
theorem k26:(Tryz.pinned.checked.prog.mayEnter)=true:=by kernel_rfl
theorem k27:((Rows.ppifEvalRow.lifted==Tryz.pinned.checked.prog.liftsFinal))=true:=by kernel_rfl
theorem k28:((Tryz.pinned.checked.prog.make==some Rows.ppifEvalRow.make))=true:=by kernel_rfl
theorem k29:((Rows.ppifEvalRow.kinds==(if Rows.ppifEvalRow.domain.isEmpty then[] else Tryz.f8.params.toList.map fun t=>match Tryz.pinned.checked.prog.underlying t with|some (.int k)=>some k|_=>none)))=true:=by kernel_rfl
theorem k30:((Rows.ppifEvalRow.pinned==Rows.ppifEvalRow.pinnedBy))=true:=by kernel_rfl
theorem k31:((Rows.ppifEvalRow.veiled==(Tryz.f8.params.toList++Rows.ppifEvalSpec.plain.varTypes Tryz.pinned.checked.prog++Tryz.f8.resultTypes.toList).any (Tryz.pinned.checked.prog.veiledRec ·)))=true:=by kernel_rfl
theorem k32:(Rows.ppifEvalRow.veiledFits Tryz.pinned.checked.prog Tryz.f8.params.toList (Tryz.f8.params.toList++Rows.ppifEvalSpec.plain.varTypes Tryz.pinned.checked.prog++Tryz.f8.resultTypes.toList))=true:=by kernel_rfl
theorem closed:joinedFacts Tryz.pinned.checked.prog 8 Tryz.f8 Rows.ppifEvalSpec Rows.ppifEvalRow=true:=by
 unfold joinedFacts
 simp only[Bool.and_eq_true]
 exact⟨⟨⟨⟨⟨⟨⟨⟨⟨⟨⟨⟨⟨⟨⟨⟨⟨⟨⟨⟨⟨⟨⟨⟨⟨⟨⟨⟨⟨⟨⟨k1,k2⟩,k3⟩,k4⟩,k5⟩,k6⟩,k7⟩,k8⟩,k9⟩,k10⟩,k11⟩,k12⟩,k13⟩,k14⟩,k15⟩,k16⟩,k17⟩,k18⟩,k19⟩,k20⟩,k21⟩,k22⟩,k23⟩,k24⟩,k25⟩,k26⟩,k27⟩,k28⟩,k29⟩,k30⟩,k31⟩,k32⟩
theorem kfn:Tryz.pinned.checked.prog.funcNamed Rows.ppifEvalRow.func=some 8:=by kernel_rfl
theorem kin:Tryz.f8.isInstance Tryz.pinned.checked.prog Rows.ppifEvalRow.origin Rows.ppifEvalRow.targs:=of_decide_eq_true (by kernel_rfl)
theorem kwr:Tryz.f8.isWrapper Tryz.pinned.checked.prog Rows.ppifEvalRow.wrapper Rows.ppifEvalRow.mainSum:=by unfold Func.isWrapper;first|(rw[if_pos (by decide +kernel)];kernel_rfl)|(rw[if_neg (by decide +kernel)];exact⟨rfl,rfl⟩)
theorem kwf:Rows.ppifEvalRow.wfByText (OpenSpec.ofChange Rows.ppifEvalSpec)=true:=by kernel_rfl
theorem kmi : Tryz.pinned.checked.prog.mainIs = some (true, "5157361bb7081c3e38638691101a97ca0e18c869a36b86cebd350c8c40e65bb3".toList) := by kernel_rfl
theorem klk:true=Tryz.pinned.checked.prog.looks []:=by kernel_rfl
theorem kgo:false=Rows.ppifEvalRow.goesBy Tryz.pinned.checked.prog:=by kernel_rfl
theorem ksi:(Tryz.f8.params.toList.all fun u=>!Tryz.prog.wantsStandIn u)=true:=by kernel_rfl
theorem kna : Tryz.prog.funcNamed "oxbow/oxbowlaw14.PpifEval" = some 8 := by kernel_rfl
theorem own:ownKnob Tryz.prog.godebug=none:=by kernel_rfl
theorem laidOut:laidOutB Tryz.prog=true:=by kernel_rfl
end Go.Proofs.YtcnmehbkpaoolaaGreatDoor
