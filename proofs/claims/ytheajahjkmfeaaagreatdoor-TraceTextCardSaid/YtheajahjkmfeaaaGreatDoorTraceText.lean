/-
 What is proved: whatever the arguments, the law TraceText answers true and leaves its arguments as they were. Conditions: those of the given row and card, no other.
-/
import Derived.Test.YtheajahjkmfeaaaGreatDoorLqa
import Derived.Test.YtheajahjkmfeaaaGreatDoorAww
import Derived.Test.YtheajahjkmfeaaaGreatDoorTraceTextk
import Derived.Test.YtheajahjkmfeaaaGreatDoorRows
import Derived.Test.YtheajahjkmfeaaaGreatDoorCards
import Derived.Test.YtheajahjkmfeaaaGreatDoorTie
import Derived.ProofKit
import Derived.WalkKit
import Derived.Lay
import Derived.MakeChecks
import Derived.SevenTiedAt
import Derived.SizedLaws
import Derived.ChangeMaps5
namespace Go.Proofs.YtheajahjkmfeaaaGreatDoor
open Go.ChangeShapes Go.WideShapes Go.ChangeAt Go.RowKit
open Go.ChangeMaps (open_string)
theorem law{W:World}(y:ByteArray):Calls Tryz.prog 3 #[.string y] W fun e w'=>e=.returned (.bool true)∧Below W.heap.size W w':=
 Den.Alm (E:=Den.env) Den.Bg (Den.Bdg W) Den.Avv (Den.Up rfl) Tryz.func3 rfl (by kernel_rfl) (args:=[Den.S y.data.toList])
  (show Den.VRs _ _ [Value.string y] from⟨_,_,rfl,⟨y,rfl,rfl,rfl⟩,rfl⟩)
  (Den.c3 Den.awW fun _=>trivial)
set_option maxRecDepth 100000 in
theorem lifted(os:Os)(started:os.Started)(H:Type)(enc:TypeId×Value→H):
 ReturnsInHanded {} Tryz.checked os 3 .any (fun w args=>(Rows.traceTextSpec.pre enc Tryz.prog Tryz.f3 [] false w args∧laidMetH Tryz.prog Rows.traceTextRow.laid w)∧sizedMet enc Tryz.prog Tryz.f3 (OpenSpec.ofChange Rows.traceTextSpec) false w args)
  (Rows.traceTextSpec.post enc Tryz.prog Tryz.f3 false true false false):=by
 refine returnsInHanded_of_change_and (C:=Tryz.checked) (X:=fun w _=>laidMetH Tryz.prog Rows.traceTextRow.laid w) (fun _ _ _ hh h=>h.of_heap hh) own started (by kernel_rfl) Tryz.func3
  (ChangeSpec.witness_shaped (enc:=enc) (C:=Tryz.checked) (os:=os) (X:=fun w _=>laidMetH Tryz.prog Rows.traceTextRow.laid w) false (World.laidAll Tryz.prog os Rows.traceTextRow.laid) #[.string ⟨#[]⟩] 8 (World.laidAll_os _ _ _)
   (World.shaped_of_ZipB (by kernel_rfl) (by kernel_rfl)) (by kernel_rfl) (by kernel_rfl) (by kernel_rfl)
   (by rw[MakeChecks.laidMetH_plain _ _ _ (by kernel_rfl)];exact laidMet_laidAll _ (by kernel_rfl) (by kernel_rfl))) ?_
 intro W base args ds gs before hval0 hW _ _ hL _
 have hval:∀(j:Nat) t v,Tryz.f3.params[j]? =some t→args[j]? =some v→Value.okWide Tryz.prog W .any base t v:=hval0
 have hW':=hW
 obtain⟨p,q,hA0,hV,rfl,_,_⟩:=hW
 have hA:DataW.TrodAll enc Tryz.prog W 0 (fun _=>true) true Tryz.f3.params.toList args.toList ds p:=hA0
 rw[Tryz.params3] at hA hval
 obtain⟨v0,d0,rfl,rfl,h0⟩:=trodAll_one hA
 obtain⟨rfl,rfl⟩:=trodVars_none hV
 obtain⟨y,rfl,rfl,rfl,wy⟩:=open_string Tryz.underlying9 (hval 0 9 v0 rfl rfl) h0
 refine(law y).mono fun e W' ⟨he,hbw⟩=>?_
 subst he
 exact⟨_,rfl,Den.Au6 laidOut (by kernel_rfl) rfl Tryz.underlying4 hW' rfl rfl hbw⟩
theorem holds:Rows.TraceTextSaid:=
 OpenClaim.holds_of_wide 3 Tryz.f3 rfl rfl rfl rfl rfl rfl rfl ⟨rfl,rfl,rfl,rfl,rfl⟩ rfl rfl rfl rfl rfl kfn Tryz.func3 closed kin kwr
  (fun os started H enc _=>lifted os started H enc)
theorem card_holds:Rows.TraceTextCardSaid:=
 Claim7.holds_tied_plain_at .later [] [.data, .data, .data, .data, .sentinel, .sentinel, .pinned, .pinned] true (true, "fc877418855449ce1ccce3f72cd3b10b8571172685e89e3850d2cbe23afdc10e") true holds (fun _ h => by cases h) kwf (fun _ h => by cases h) traceText_row_tie rfl ⟨rfl, rfl⟩ kmi rfl
  (fun f fn hf hfn=>by
   obtain rfl:f=3:=Option.some.inj (kna.symm.trans hf) |>.symm
   obtain rfl:fn=Tryz.f3:=(Option.some.inj (Tryz.func3.symm.trans hfn)).symm
   exact⟨klk,fun j t ht=>by
    have hm:t∈Tryz.f3.params.toList:=by simpa using Array.mem_of_getElem? ht
    have hall:(Tryz.f3.params.toList.all fun u=>!Tryz.prog.wantsStandIn u)=true:=ksi
    exact(show Tryz.prog.wantsStandIn t=false by simpa using List.all_eq_true.1 hall t hm)⟩)
  kgo
#print axioms card_holds
end Go.Proofs.YtheajahjkmfeaaaGreatDoor
