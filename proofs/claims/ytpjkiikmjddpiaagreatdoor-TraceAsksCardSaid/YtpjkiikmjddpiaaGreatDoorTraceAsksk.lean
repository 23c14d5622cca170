/-
  A part of the proof: closed facts of the row, each by itself.
-/
import Derived.Test.YtpjkiikmjddpiaaGreatDoorRows
import Derived.Test.YtpjkiikmjddpiaaGreatDoorProg
import Derived.JoinedOf
import Derived.KernelRfl
import Derived.Lay
import Derived.ProofKit
import Derived.WalkKit
import Derived.SevenTiedAt
namespace Go.Proofs.YtpjkiikmjddpiaaGreatDoor
set_option maxRecDepth 100000
theorem k1:(Rows.traceAsksRow.wf (OpenSpec.ofChange Rows.traceAsksSpec))=true:=by kernel_rfl
theorem k2:(laidOutB Tryz.pinned.checked.prog)=true:=by kernel_rfl
theorem k3:(mapsRowed Tryz.pinned.checked.prog)=true:=by kernel_rfl
theorem k4:(Tryz.f3.params.all (Tryz.pinned.checked.prog.readableRec ·))=true:=by kernel_rfl
theorem k5:(namedTie Tryz.pinned.checked.prog Rows.traceAsksRow.named Rows.traceAsksSpec.vars)=true:=by kernel_rfl
theorem k6:((Rows.traceAsksRow.stops==[]))=true:=by kernel_rfl
theorem k7:((Tryz.pinned.checked.prog.stops==[]))=true:=by kernel_rfl
theorem k8:((Rows.traceAsksRow.knobs==[]))=true:=by kernel_rfl
theorem k9:((Tryz.pinned.checked.prog.stopKnobs==[]))=true:=by kernel_rfl
theorem k10:((Rows.traceAsksRow.inPlace==Tryz.pinned.checked.prog.inPlace 3))=true:=by kernel_rfl
theorem k11:((Rows.traceAsksRow.unfollowed==Tryz.pinned.checked.prog.unfollowed 3))=true:=by kernel_rfl
theorem k12:((Rows.traceAsksRow.recurses==Tryz.pinned.checked.prog.recurses 3))=true:=by kernel_rfl
theorem k13:((Rows.traceAsksRow.named==Tryz.pinned.checked.prog.varsNamed 3))=true:=by kernel_rfl
theorem k14:((Rows.traceAsksRow.maps==(Tryz.f3.params.toList++Rows.traceAsksSpec.plain.varTypes Tryz.pinned.checked.prog).any (Tryz.pinned.checked.prog.mapsRec ·)))=true:=by kernel_rfl
theorem k15:((Rows.traceAsksRow.ifaces==(Tryz.f3.params.toList++Rows.traceAsksSpec.plain.varTypes Tryz.pinned.checked.prog).any (Tryz.pinned.checked.prog.ifacesRec ·)))=true:=by kernel_rfl
theorem k16:((Rows.traceAsksRow.mapsOut==Tryz.pinned.checked.prog.mapsAmong Tryz.f3.resultTypes.toList))=true:=by kernel_rfl
theorem k17:((Rows.traceAsksRow.loops==(Tryz.f3.params.toList++Rows.traceAsksSpec.plain.varTypes Tryz.pinned.checked.prog).any (Tryz.pinned.checked.prog.loopsFrom ·)))=true:=by kernel_rfl
theorem k18:((Rows.traceAsksRow.wideKeys==(Tryz.f3.params.toList++Rows.traceAsksSpec.plain.varTypes Tryz.pinned.checked.prog++Tryz.f3.resultTypes.toList).any (Tryz.pinned.checked.prog.wideKeysFrom ·)))=true:=by kernel_rfl
theorem k19:(Rows.traceAsksSpec.vars.all (Tryz.pinned.checked.prog.varReadable ·))=true:=by kernel_rfl
theorem k20:(Tryz.f3.resultTypes.all (fun t=>Tryz.pinned.checked.prog.readableRec t&&decide (t<Tryz.pinned.checked.prog.types.size)))=true:=by kernel_rfl
theorem k21:((Rows.traceAsksRow.ifacesOut==Tryz.f3.resultTypes.toList.any (Tryz.pinned.checked.prog.ifacesRec ·)))=true:=by kernel_rfl
theorem k22:((Rows.traceAsksRow.loopsOut==Tryz.f3.resultTypes.toList.any (Tryz.pinned.checked.prog.loopsFrom ·)))=true:=by kernel_rfl
theorem k23:((Rows.traceAsksRow.plainKeys==Tryz.pinned.checked.prog.plainKeys))=true:=by kernel_rfl
theorem k24:(Rows.traceAsksRow.shortTexts.isNone)=true:=by kernel_rfl
theorem k25:(Tryz.pinned.checked.prog.stopsHeard)=true:=by kernel_rfl
theorem k26:(Tryz.pinned.checked.prog.mayEnter)=true:=by kernel_rfl
theorem k27:((Rows.traceAsksRow.lifted==Tryz.pinned.checked.prog.liftsFinal))=true:=by kernel_rfl
theorem k28:((Tryz.pinned.checked.prog.make==some Rows.traceAsksRow.make))=true:=by kernel_rfl
theorem k29:((Rows.traceAsksRow.kinds==(if Rows.traceAsksRow.domain.isEmpty then[] else Tryz.f3.params.toList.map fun t=>match Tryz.pinned.checked.prog.underlying t with|some (.int k)=>some k|_=>none)))=true:=by kernel_rfl
theorem k30:((Rows.traceAsksRow.pinned==Rows.traceAsksRow.pinnedBy))=true:=by kernel_rfl
theorem k31:((Rows.traceAsksRow.veiled==(Tryz.f3.params.toList++Rows.traceAsksSpec.plain.varTypes Tryz.pinned.checked.prog++Tryz.f3.resultTypes.toList).any (Tryz.pinned.checked.prog.veiledRec ·)))=true:=by kernel_rfl
theorem k32:(Rows.traceAsksRow.veiledFits Tryz.pinned.checked.prog Tryz.f3.params.toList (Tryz.f3.params.toList++Rows.traceAsksSpec.plain.varTypes Tryz.pinned.checked.prog++Tryz.f3.resultTypes.toList))=true:=by kernel_rfl
theorem closed:joinedFacts Tryz.pinned.checked.prog 3 Tryz.f3 Rows.traceAsksSpec Rows.traceAsksRow=true:=by
  unfold joinedFacts
  simp only[Bool.and_eq_true]
  exact⟨⟨⟨⟨⟨⟨⟨⟨⟨⟨⟨⟨⟨⟨⟨⟨⟨⟨⟨⟨⟨⟨⟨⟨⟨⟨⟨⟨⟨⟨⟨k1,k2⟩,k3⟩,k4⟩,k5⟩,k6⟩,k7⟩,k8⟩,k9⟩,k10⟩,k11⟩,k12⟩,k13⟩,k14⟩,k15⟩,k16⟩,k17⟩,k18⟩,k19⟩,k20⟩,k21⟩,k22⟩,k23⟩,k24⟩,k25⟩,k26⟩,k27⟩,k28⟩,k29⟩,k30⟩,k31⟩,k32⟩
theorem kfn:Tryz.pinned.checked.prog.funcNamed Rows.traceAsksRow.func=some 3:=by kernel_rfl
theorem kin:Tryz.f3.isInstance Tryz.pinned.checked.prog Rows.traceAsksRow.origin Rows.traceAsksRow.targs:=of_decide_eq_true (by kernel_rfl)
theorem kwr:Tryz.f3.isWrapper Tryz.pinned.checked.prog Rows.traceAsksRow.wrapper Rows.traceAsksRow.mainSum:=by unfold Func.isWrapper;first|(rw[if_pos (by decide +kernel)];kernel_rfl)|(rw[if_neg (by decide +kernel)];exact⟨rfl,rfl⟩)
theorem kwf:Rows.traceAsksRow.wfByText (OpenSpec.ofChange Rows.traceAsksSpec)=true:=by kernel_rfl
theorem kmi : Tryz.pinned.checked.prog.mainIs = some (true, "28bad916f6914d817d9e6a2b9bfb5d055b3e66891f2c5e44edc1ccff39e33c26".toList) := by kernel_rfl
theorem klk:true=Tryz.pinned.checked.prog.looks []:=by kernel_rfl
theorem kgo:false=Rows.traceAsksRow.goesBy Tryz.pinned.checked.prog:=by kernel_rfl
theorem ksi:(Tryz.f3.params.toList.all fun u=>!Tryz.prog.wantsStandIn u)=true:=by kernel_rfl
theorem kna : Tryz.prog.funcNamed "oxbow/oxbowlaw24.TraceAsks" = some 3 := by kernel_rfl
theorem own:ownKnob Tryz.prog.godebug=none:=by kernel_rfl
theorem laidOut:laidOutB Tryz.prog=true:=by kernel_rfl
end Go.Proofs.YtpjkiikmjddpiaaGreatDoor
