/-
 What is proved: whatever the arguments, the law ConvertEach answers true and leaves its arguments as they were. Conditions: those of the given row and card, no other.
-/
import Derived.Test.YtcnmehbkpaoolaaGreatDoorEac
import Derived.Test.YtcnmehbkpaoolaaGreatDoorStar
import Derived.Test.YtcnmehbkpaoolaaGreatDoorEachk
import Derived.Test.YtcnmehbkpaoolaaGreatDoorCards
import Derived.Test.YtcnmehbkpaoolaaGreatDoorTie
import Derived.ProofKit
import Derived.WalkKit
import Derived.Lay
import Derived.MakeChecks
import Derived.SevenTiedAt
import Derived.SizedLaws
import Derived.ChangeMaps5
namespace Go.Proofs.YtcnmehbkpaoolaaGreatDoor
open Go.ChangeShapes Go.WideShapes Go.ChangeAt Go.RowKit
open Go.Den (S)
open Go.ChangeMaps (open_string shut_string)
theorem law{W:World}{L:List Den.Loc}(hs:Den.Sim (Den.mu0 L) Den.h1 W)(hg:Den.Fw (Den.mu0 L) Den.G)(y:ByteArray):
 Calls Tryz.prog 4 #[.string y] W fun e w'=>e=.returned (.bool true)∧Below W.heap.size W w':=
 Den.Aly (E:=Den.env) Den.Bl hs hg (Den.Ty Den.Bi7) Tryz.func4 rfl (by kernel_rfl) (args:=[S y.data.toList])
  (show Den.VRs _ _ [Value.string y] from⟨_,_,rfl,⟨y,rfl,rfl,rfl⟩,rfl⟩)
  (Den.Tk (Den.c4 y.data.toList Den.Aom) fun v h e=>by rw[e];trivial)
set_option maxRecDepth 100000 in
theorem lifted(os:Os)(started:os.Started)(H:Type)(enc:TypeId×Value→H):
 ReturnsInHanded {} Tryz.checked os 4 .any (fun w args=>(Rows.convertEachSpec.pre enc Tryz.prog Tryz.f4 [] false w args∧laidMetH Tryz.prog Rows.convertEachRow.laid w)∧sizedMet enc Tryz.prog Tryz.f4 (OpenSpec.ofChange Rows.convertEachSpec) false w args)
  (Rows.convertEachSpec.post enc Tryz.prog Tryz.f4 false true false false):=by
 refine returnsInHanded_of_change_and (C:=Tryz.checked) (X:=fun w _=>laidMetH Tryz.prog Rows.convertEachRow.laid w) (fun _ _ _ hh h=>h.of_heap hh) own started (by kernel_rfl) Tryz.func4
  (ChangeSpec.witness_shaped (enc:=enc) (C:=Tryz.checked) (os:=os) (X:=fun w _=>laidMetH Tryz.prog Rows.convertEachRow.laid w) false (World.laidAll Tryz.prog os Rows.convertEachRow.laid) #[.string ⟨#[]⟩] 8 (World.laidAll_os _ _ _)
   (World.shaped_of_ZipB (by kernel_rfl) (by kernel_rfl)) (by kernel_rfl) (by kernel_rfl) (by kernel_rfl)
   (by rw[MakeChecks.laidMetH_plain _ _ _ (by kernel_rfl)];exact laidMet_laidAll _ (by kernel_rfl) (by kernel_rfl))) ?_
 intro W base args ds gs before hval0 hW _ _ hL _
 have hval:∀(j:Nat) t v,Tryz.f4.params[j]? =some t→args[j]? =some v→Value.okWide Tryz.prog W .any base t v:=hval0
 have hW':=hW
 obtain⟨p,q,hA0,hV,rfl,_,_⟩:=hW
 have hA:DataW.TrodAll enc Tryz.prog W 0 (fun _=>true) true Tryz.f4.params.toList args.toList ds p:=hA0
 rw[Tryz.params4] at hA hval
 obtain⟨v0,d0,rfl,rfl,h0⟩:=trodAll_one hA
 obtain⟨rfl,rfl⟩:=trodVars_none hV
 obtain⟨y,rfl,rfl,rfl,wy⟩:=open_string Tryz.underlying9 (hval 0 9 v0 rfl rfl) h0
 obtain⟨L,s1,s2⟩:=Den.Aka (show laidMetH Den.PP Den.Amd W from hL)
 refine(law s1 s2 y).mono fun e W' ⟨he,hbw⟩=>?_
 subst he
 exact⟨_,rfl,Den.Ats laidOut (by kernel_rfl) rfl Tryz.underlying4 hW' rfl rfl hbw⟩
theorem holds:Rows.ConvertEachSaid:=
 OpenClaim.holds_of_wide 4 Tryz.f4 rfl rfl rfl rfl rfl rfl rfl ⟨rfl,rfl,rfl,rfl,rfl⟩ rfl rfl rfl rfl rfl kfn Tryz.func4 closed kin kwr
  (fun os started H enc _=>lifted os started H enc)
theorem card_holds:Rows.ConvertEachCardSaid:=
 Claim7.holds_tied_plain_at .later [] [.data, .data, .data, .data, .sentinel, .sentinel, .listed, .data, .pinned, .pinned] true (true, "5157361bb7081c3e38638691101a97ca0e18c869a36b86cebd350c8c40e65bb3") true holds (fun _ h => by cases h) kwf (fun _ h => by cases h) convertEach_row_tie rfl ⟨rfl, rfl⟩ kmi rfl
  (fun f fn hf hfn=>by
   obtain rfl:f=4:=Option.some.inj (kna.symm.trans hf) |>.symm
   obtain rfl:fn=Tryz.f4:=(Option.some.inj (Tryz.func4.symm.trans hfn)).symm
   exact⟨klk,fun j t ht=>by
    have hm:t∈Tryz.f4.params.toList:=by simpa using Array.mem_of_getElem? ht
    have hall:(Tryz.f4.params.toList.all fun u=>!Tryz.prog.wantsStandIn u)=true:=ksi
    exact(show Tryz.prog.wantsStandIn t=false by simpa using List.all_eq_true.1 hall t hm)⟩)
  kgo
#print axioms card_holds
end Go.Proofs.YtcnmehbkpaoolaaGreatDoor
