/-
 Proof. closed facts of the row, each by itself.
-/
import Derived.Test.YtmgalljhidgnoaaGreatDoorRows
import Derived.Test.YtmgalljhidgnoaaGreatDoorProg
import Derived.JoinedOf
import Derived.KernelRfl
import Derived.Lay
import Derived.ProofKit
import Derived.WalkKit
import Derived.SevenTiedAt
namespace Go.Proofs.YtmgalljhidgnoaaGreatDoor
set_option maxRecDepth 100000
theorem k1:(Rows.frontPragmasRow.wf (OpenSpec.ofChange Rows.frontPragmasSpec))=true:=by kernel_rfl
theorem k2:(laidOutB Tryz.pinned.checked.prog)=true:=by kernel_rfl
theorem k3:(mapsRowed Tryz.pinned.checked.prog)=true:=by kernel_rfl
theorem k4:(Tryz.f3.params.all (Tryz.pinned.checked.prog.readableRec ·))=true:=by kernel_rfl
theorem k5:(namedTie Tryz.pinned.checked.prog Rows.frontPragmasRow.named Rows.frontPragmasSpec.vars)=true:=by kernel_rfl
theorem k6:((Rows.frontPragmasRow.stops==[]))=true:=by kernel_rfl
theorem k7:((Tryz.pinned.checked.prog.stops==[]))=true:=by kernel_rfl
theorem k8:((Rows.frontPragmasRow.knobs==[]))=true:=by kernel_rfl
theorem k9:((Tryz.pinned.checked.prog.stopKnobs==[]))=true:=by kernel_rfl
theorem OB:((Rows.frontPragmasRow.inPlace==Tryz.pinned.checked.prog.inPlace 3))=true:=by kernel_rfl
theorem bX:((Rows.frontPragmasRow.unfollowed==Tryz.pinned.checked.prog.unfollowed 3))=true:=by kernel_rfl
theorem cR:((Rows.frontPragmasRow.recurses==Tryz.pinned.checked.prog.recurses 3))=true:=by kernel_rfl
theorem k13:((Rows.frontPragmasRow.named==Tryz.pinned.checked.prog.varsNamed 3))=true:=by kernel_rfl
theorem OL:((Rows.frontPragmasRow.maps==(Tryz.f3.params.toList++Rows.frontPragmasSpec.plain.varTypes Tryz.pinned.checked.prog).any (Tryz.pinned.checked.prog.mapsRec ·)))=true:=by kernel_rfl
theorem O5:((Rows.frontPragmasRow.ifaces==(Tryz.f3.params.toList++Rows.frontPragmasSpec.plain.varTypes Tryz.pinned.checked.prog).any (Tryz.pinned.checked.prog.ifacesRec ·)))=true:=by kernel_rfl
theorem tv:((Rows.frontPragmasRow.mapsOut==Tryz.pinned.checked.prog.mapsAmong Tryz.f3.resultTypes.toList))=true:=by kernel_rfl
theorem k17:((Rows.frontPragmasRow.loops==(Tryz.f3.params.toList++Rows.frontPragmasSpec.plain.varTypes Tryz.pinned.checked.prog).any (Tryz.pinned.checked.prog.loopsFrom ·)))=true:=by kernel_rfl
theorem T8:((Rows.frontPragmasRow.wideKeys==(Tryz.f3.params.toList++Rows.frontPragmasSpec.plain.varTypes Tryz.pinned.checked.prog++Tryz.f3.resultTypes.toList).any (Tryz.pinned.checked.prog.wideKeysFrom ·)))=true:=by kernel_rfl
theorem k19:(Rows.frontPragmasSpec.vars.all (Tryz.pinned.checked.prog.varReadable ·))=true:=by kernel_rfl
theorem k20:(Tryz.f3.resultTypes.all (λt=>Tryz.pinned.checked.prog.readableRec t&&decide (t<Tryz.pinned.checked.prog.types.size)))=true:=by kernel_rfl
theorem cZ:((Rows.frontPragmasRow.ifacesOut==Tryz.f3.resultTypes.toList.any (Tryz.pinned.checked.prog.ifacesRec ·)))=true:=by kernel_rfl
theorem k22:((Rows.frontPragmasRow.loopsOut==Tryz.f3.resultTypes.toList.any (Tryz.pinned.checked.prog.loopsFrom ·)))=true:=by kernel_rfl
theorem k23:((Rows.frontPragmasRow.plainKeys==Tryz.pinned.checked.prog.plainKeys))=true:=by kernel_rfl
theorem dD:(Rows.frontPragmasRow.shortTexts.isNone)=true:=by kernel_rfl
theorem ee:(Tryz.pinned.checked.prog.stopsHeard)=true:=by kernel_rfl
theorem k26:(Tryz.pinned.checked.prog.mayEnter)=true:=by kernel_rfl
theorem k27:((Rows.frontPragmasRow.lifted==Tryz.pinned.checked.prog.liftsFinal))=true:=by kernel_rfl
theorem k28:((Tryz.pinned.checked.prog.make==some Rows.frontPragmasRow.make))=true:=by kernel_rfl
theorem k29:((Rows.frontPragmasRow.kinds==(if Rows.frontPragmasRow.domain.isEmpty then[] else Tryz.f3.params.toList.map λt=>match Tryz.pinned.checked.prog.underlying t with|some (.int k)=>some k|_=>none)))=true:=by kernel_rfl
theorem k30:((Rows.frontPragmasRow.pinned==Rows.frontPragmasRow.pinnedBy))=true:=by kernel_rfl
theorem bU:((Rows.frontPragmasRow.veiled==(Tryz.f3.params.toList++Rows.frontPragmasSpec.plain.varTypes Tryz.pinned.checked.prog++Tryz.f3.resultTypes.toList).any (Tryz.pinned.checked.prog.veiledRec ·)))=true:=by kernel_rfl
theorem k32:(Rows.frontPragmasRow.veiledFits Tryz.pinned.checked.prog Tryz.f3.params.toList (Tryz.f3.params.toList++Rows.frontPragmasSpec.plain.varTypes Tryz.pinned.checked.prog++Tryz.f3.resultTypes.toList))=true:=by kernel_rfl
theorem closed:joinedFacts Tryz.pinned.checked.prog 3 Tryz.f3 Rows.frontPragmasSpec Rows.frontPragmasRow=true:=by unfold joinedFacts;simp only[Bool.and_eq_true];exact⟨⟨⟨⟨⟨⟨⟨⟨⟨⟨⟨⟨⟨⟨⟨⟨⟨⟨⟨⟨⟨⟨⟨⟨⟨⟨⟨⟨⟨⟨⟨k1,k2⟩,k3⟩,k4⟩,k5⟩,k6⟩,k7⟩,k8⟩,k9⟩,OB⟩,bX⟩,cR⟩,k13⟩,OL⟩,O5⟩,tv⟩,k17⟩,T8⟩,k19⟩,k20⟩,cZ⟩,k22⟩,k23⟩,dD⟩,ee⟩,k26⟩,k27⟩,k28⟩,k29⟩,k30⟩,bU⟩,k32⟩
theorem kfn:Tryz.pinned.checked.prog.funcNamed Rows.frontPragmasRow.func=some 3:=by kernel_rfl
theorem kin:Tryz.f3.isInstance Tryz.pinned.checked.prog Rows.frontPragmasRow.origin Rows.frontPragmasRow.targs:=of_decide_eq_true (by kernel_rfl)
theorem kwr:Tryz.f3.isWrapper Tryz.pinned.checked.prog Rows.frontPragmasRow.wrapper Rows.frontPragmasRow.mainSum:=by unfold Func.isWrapper;first|(rw[if_pos (by decide +kernel)];kernel_rfl)|(rw[if_neg (by decide +kernel)];exact⟨rfl,rfl⟩)
theorem kwf:Rows.frontPragmasRow.wfByText (OpenSpec.ofChange Rows.frontPragmasSpec)=true:=by kernel_rfl
theorem kmi : Tryz.pinned.checked.prog.mainIs = some (true, "7e13a7eff827cdd1384c8f469564a07ae2360be027abfbed6b1a1be69f58947e".toList) := by kernel_rfl
theorem klk:true=Tryz.pinned.checked.prog.looks []:=by kernel_rfl
theorem kgo:false=Rows.frontPragmasRow.goesBy Tryz.pinned.checked.prog:=by kernel_rfl
theorem ksi:(Tryz.f3.params.toList.all λu=>!Tryz.prog.wantsStandIn u)=true:=by kernel_rfl
theorem kna : Tryz.prog.funcNamed "oxbow/oxbowlaw16.FrontPragmas" = some 3 := by kernel_rfl
theorem own:ownKnob Tryz.prog.godebug=none:=by kernel_rfl
theorem laidOut:laidOutB Tryz.prog=true:=by kernel_rfl
end Go.Proofs.YtmgalljhidgnoaaGreatDoor
