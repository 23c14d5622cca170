/-
 Proof.
-/
import Derived.Test.YtheajahjkmfeaaaGreatDoorRows
import Derived.Test.YtheajahjkmfeaaaGreatDoorProg
import Derived.JoinedOf
import Derived.KernelRfl
import Derived.Lay
import Derived.ProofKit
import Derived.WalkKit
import Derived.SevenTiedAt
namespace Go.Proofs.YtheajahjkmfeaaaGreatDoor
set_option maxRecDepth 100000
theorem k1:(Rows.traceTextRow.wf (OpenSpec.ofChange Rows.traceTextSpec))=true:=by kernel_rfl
theorem k2:(laidOutB Tryz.pinned.checked.prog)=true:=by kernel_rfl
theorem k3:(mapsRowed Tryz.pinned.checked.prog)=true:=by kernel_rfl
theorem k4:(Tryz.f3.params.all (Tryz.pinned.checked.prog.readableRec ·))=true:=by kernel_rfl
theorem k5:(namedTie Tryz.pinned.checked.prog Rows.traceTextRow.named Rows.traceTextSpec.vars)=true:=by kernel_rfl
theorem k6:((Rows.traceTextRow.stops==[]))=true:=by kernel_rfl
theorem k7:((Tryz.pinned.checked.prog.stops==[]))=true:=by kernel_rfl
theorem k8:((Rows.traceTextRow.knobs==[]))=true:=by kernel_rfl
theorem k9:((Tryz.pinned.checked.prog.stopKnobs==[]))=true:=by kernel_rfl
theorem k10:((Rows.traceTextRow.inPlace==Tryz.pinned.checked.prog.inPlace 3))=true:=by kernel_rfl
theorem k11:((Rows.traceTextRow.unfollowed==Tryz.pinned.checked.prog.unfollowed 3))=true:=by kernel_rfl
theorem k12:((Rows.traceTextRow.recurses==Tryz.pinned.checked.prog.recurses 3))=true:=by kernel_rfl
theorem k13:((Rows.traceTextRow.named==Tryz.pinned.checked.prog.varsNamed 3))=true:=by kernel_rfl
theorem k14:((Rows.traceTextRow.maps==(Tryz.f3.params.toList++Rows.traceTextSpec.plain.varTypes Tryz.pinned.checked.prog).any (Tryz.pinned.checked.prog.mapsRec ·)))=true:=by kernel_rfl
theorem k15:((Rows.traceTextRow.ifaces==(Tryz.f3.params.toList++Rows.traceTextSpec.plain.varTypes Tryz.pinned.checked.prog).any (Tryz.pinned.checked.prog.ifacesRec ·)))=true:=by kernel_rfl
theorem k16:((Rows.traceTextRow.mapsOut==Tryz.pinned.checked.prog.mapsAmong Tryz.f3.resultTypes.toList))=true:=by kernel_rfl
theorem k17:((Rows.traceTextRow.loops==(Tryz.f3.params.toList++Rows.traceTextSpec.plain.varTypes Tryz.pinned.checked.prog).any (Tryz.pinned.checked.prog.loopsFrom ·)))=true:=by kernel_rfl
theorem k18:((Rows.traceTextRow.wideKeys==(Tryz.f3.params.toList++Rows.traceTextSpec.plain.varTypes Tryz.pinned.checked.prog++Tryz.f3.resultTypes.toList).any (Tryz.pinned.checked.prog.wideKeysFrom ·)))=true:=by kernel_rfl
theorem k19:(Rows.traceTextSpec.vars.all (Tryz.pinned.checked.prog.varReadable ·))=true:=by kernel_rfl
theorem k20:(Tryz.f3.resultTypes.all (fun t=>Tryz.pinned.checked.prog.readableRec t&&decide (t<Tryz.pinned.checked.prog.types.size)))=true:=by kernel_rfl
theorem k21:((Rows.traceTextRow.ifacesOut==Tryz.f3.resultTypes.toList.any (Tryz.pinned.checked.prog.ifacesRec ·)))=true:=by kernel_rfl
theorem k22:((Rows.traceTextRow.loopsOut==Tryz.f3.resultTypes.toList.any (Tryz.pinned.checked.prog.loopsFrom ·)))=true:=by kernel_rfl
theorem k23:((Rows.traceTextRow.plainKeys==Tryz.pinned.checked.prog.plainKeys))=true:=by kernel_rfl
theorem k24:(Rows.traceTextRow.shortTexts.isNone)=true:=by kernel_rfl
theorem k25:(Tryz.pinned.checked.prog.stopsHeard)=true:=by kernel_rfl
theorem k26:(Tryz.pinned.checked.prog.mayEnter)=true:=by kernel_rfl
theorem k27:((Rows.traceTextRow.lifted==Tryz.pinned.checked.prog.liftsFinal))=true:=by kernel_rfl
theorem k28:((Tryz.pinned.checked.prog.make==some Rows.traceTextRow.make))=true:=by kernel_rfl
theorem k29:((Rows.traceTextRow.kinds==(if Rows.traceTextRow.domain.isEmpty then[] else Tryz.f3.params.toList.map fun t=>match Tryz.pinned.checked.prog.underlying t with|some (.int k)=>some k|_=>none)))=true:=by kernel_rfl
theorem k30:((Rows.traceTextRow.pinned==Rows.traceTextRow.pinnedBy))=true:=by kernel_rfl
theorem k31:((Rows.traceTextRow.veiled==(Tryz.f3.params.toList++Rows.traceTextSpec.plain.varTypes Tryz.pinned.checked.prog++Tryz.f3.resultTypes.toList).any (Tryz.pinned.checked.prog.veiledRec ·)))=true:=by kernel_rfl
theorem k32:(Rows.traceTextRow.veiledFits Tryz.pinned.checked.prog Tryz.f3.params.toList (Tryz.f3.params.toList++Rows.traceTextSpec.plain.varTypes Tryz.pinned.checked.prog++Tryz.f3.resultTypes.toList))=true:=by kernel_rfl
theorem closed:joinedFacts Tryz.pinned.checked.prog 3 Tryz.f3 Rows.traceTextSpec Rows.traceTextRow=true:=by
 unfold joinedFacts
 simp only[Bool.and_eq_true]
 exact⟨⟨⟨⟨⟨⟨⟨⟨⟨⟨⟨⟨⟨⟨⟨⟨⟨⟨⟨⟨⟨⟨⟨⟨⟨⟨⟨⟨⟨⟨⟨k1,k2⟩,k3⟩,k4⟩,k5⟩,k6⟩,k7⟩,k8⟩,k9⟩,k10⟩,k11⟩,k12⟩,k13⟩,k14⟩,k15⟩,k16⟩,k17⟩,k18⟩,k19⟩,k20⟩,k21⟩,k22⟩,k23⟩,k24⟩,k25⟩,k26⟩,k27⟩,k28⟩,k29⟩,k30⟩,k31⟩,k32⟩
theorem kfn:Tryz.pinned.checked.prog.funcNamed Rows.traceTextRow.func=some 3:=by kernel_rfl
theorem kin:Tryz.f3.isInstance Tryz.pinned.checked.prog Rows.traceTextRow.origin Rows.traceTextRow.targs:=of_decide_eq_true (by kernel_rfl)
theorem kwr:Tryz.f3.isWrapper Tryz.pinned.checked.prog Rows.traceTextRow.wrapper Rows.traceTextRow.mainSum:=by unfold Func.isWrapper;first|(rw[if_pos (by decide +kernel)];kernel_rfl)|(rw[if_neg (by decide +kernel)];exact⟨rfl,rfl⟩)
theorem kwf:Rows.traceTextRow.wfByText (OpenSpec.ofChange Rows.traceTextSpec)=true:=by kernel_rfl
theorem kmi : Tryz.pinned.checked.prog.mainIs = some (true, "fc877418855449ce1ccce3f72cd3b10b8571172685e89e3850d2cbe23afdc10e".toList) := by kernel_rfl
theorem klk:true=Tryz.pinned.checked.prog.looks []:=by kernel_rfl
theorem kgo:false=Rows.traceTextRow.goesBy Tryz.pinned.checked.prog:=by kernel_rfl
theorem ksi:(Tryz.f3.params.toList.all fun u=>!Tryz.prog.wantsStandIn u)=true:=by kernel_rfl
theorem kna : Tryz.prog.funcNamed "oxbow/oxbowlaw24.TraceText" = some 3 := by kernel_rfl
theorem own:ownKnob Tryz.prog.godebug=none:=by kernel_rfl
theorem laidOut:laidOutB Tryz.prog=true:=by kernel_rfl
end Go.Proofs.YtheajahjkmfeaaaGreatDoor
