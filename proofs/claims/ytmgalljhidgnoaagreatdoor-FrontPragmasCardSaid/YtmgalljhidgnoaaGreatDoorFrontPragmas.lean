/-
 What is proved: whatever the arguments, the law FrontPragmas answers true and leaves BG arguments as they were. Conditions: those of the given row and card, no other.
-/
import Derived.Test.YtmgalljhidgnoaaGreatDoorPrf
import Derived.Test.YtmgalljhidgnoaaGreatDoorAww
import Derived.Test.YtmgalljhidgnoaaGreatDoorFrontPragmask
import Derived.Test.YtmgalljhidgnoaaGreatDoorRows
import Derived.Test.YtmgalljhidgnoaaGreatDoorCards
import Derived.Test.YtmgalljhidgnoaaGreatDoorTie
import Derived.ProofKit
import Derived.WalkKit
import Derived.Lay
import Derived.MakeChecks
import Derived.SevenTiedAt
import Derived.SizedLaws
import Derived.ChangeMaps5
namespace Go.Proofs.YtmgalljhidgnoaaGreatDoor
open Go.ChangeShapes Go.WideShapes Go.ChangeAt Go.RowKit
open Go.ChangeMaps (open_string)
theorem law{W:World}(x0:Int)(x1:ByteArray)(x2:Int):Calls Tryz.prog 3 #[.int .i64 x0,.string x1,.int .i64 x2] W fun e w'=>e=.returned (.bool true)∧Below W.heap.size W w':=
 Den.bB (E:=Den.env) Den.AJ (Den.Aps W) Den.iF (Den.LG rfl) Tryz.func3 rfl (by kernel_rfl) (args:=[.int .i64 x0,Den.S x1.data.toList,.int .i64 x2])
  (show Den.BN _ _ [Value.int .i64 x0,Value.string x1,Value.int .i64 x2] from⟨_,_,rfl,rfl,_,_,rfl,⟨x1,rfl,rfl,rfl⟩,_,_,rfl,rfl,rfl⟩)
  (Den.c3 Den.awW (Nat.le_of_ble_eq_true (by kernel_rfl)) fun _=>trivial)
set_option maxRecDepth 100000 in
theorem lifted(os:Os)(started:os.Started)(H:Type)(enc:TypeId×Value→H):
 ReturnsInHanded {} Tryz.checked os 3 .any (fun w args=>(Rows.frontPragmasSpec.pre enc Tryz.prog Tryz.f3 [] false w args∧laidMetH Tryz.prog Rows.frontPragmasRow.laid w)∧sizedMet enc Tryz.prog Tryz.f3 (OpenSpec.ofChange Rows.frontPragmasSpec) false w args)
  (Rows.frontPragmasSpec.post enc Tryz.prog Tryz.f3 false true false false):=by
 refine returnsInHanded_of_change_and (C:=Tryz.checked) (X:=fun w _=>laidMetH Tryz.prog Rows.frontPragmasRow.laid w) (fun _ _ _ hh h=>h.of_heap hh) own started (by kernel_rfl) Tryz.func3
  (ChangeSpec.witness_shaped (enc:=enc) (C:=Tryz.checked) (os:=os) (X:=fun w _=>laidMetH Tryz.prog Rows.frontPragmasRow.laid w) false (World.laidAll Tryz.prog os Rows.frontPragmasRow.laid) #[.int .i64 0,.string ⟨#[]⟩,.int .i64 0] 8 (World.laidAll_os _ _ _)
   (World.shaped_of_ZipB (by kernel_rfl) (by kernel_rfl)) (by kernel_rfl) (by kernel_rfl) (by kernel_rfl)
   (by rw[MakeChecks.laidMetH_plain _ _ _ (by kernel_rfl)];exact laidMet_laidAll _ (by kernel_rfl) (by kernel_rfl))) ?_
 intro W base args ds gs before hval0 hW _ _ hL _
 have hval:∀(j:Nat) t v,Tryz.f3.params[j]? =some t→args[j]? =some v→Value.okWide Tryz.prog W .any base t v:=hval0
 have hW':=hW
 obtain⟨p,q,hA0,hV,rfl,_,_⟩:=hW
 have hA:DataW.TrodAll enc Tryz.prog W 0 (fun _=>true) true Tryz.f3.params.toList args.toList ds p:=hA0
 rw[Tryz.params3] at hA hval
 obtain⟨v0,v1,v2,d0,d1,d2,p0,p1,p2,rfl,rfl,rfl,h0,h1,h2⟩:=trodAll_three hA
 obtain⟨rfl,rfl⟩:=trodVars_none hV
 obtain⟨x0,rfl,rfl,rfl,_⟩:=open_int Tryz.underlying3 (hval 0 3 v0 rfl rfl) h0
 obtain⟨x1,rfl,rfl,rfl,_⟩:=open_string Tryz.underlying9 (hval 1 9 v1 rfl rfl) h1
 obtain⟨x2,rfl,rfl,rfl,_⟩:=open_int Tryz.underlying3 (hval 2 3 v2 rfl rfl) h2
 refine(law x0 x1 x2).mono fun e W' ⟨he,hbw⟩=>?_
 subst he
 exact⟨_,rfl,Den.kG laidOut (by kernel_rfl) rfl Tryz.underlying4 hW' rfl rfl hbw⟩
theorem holds:Rows.FrontPragmasSaid:=
 OpenClaim.holds_of_wide 3 Tryz.f3 rfl rfl rfl rfl rfl rfl rfl ⟨rfl,rfl,rfl,rfl,rfl⟩ rfl rfl rfl rfl rfl kfn Tryz.func3 closed kin kwr
  (fun os started H enc _=>lifted os started H enc)
theorem card_holds:Rows.FrontPragmasCardSaid:=
 Claim7.holds_tied_plain_at .later [] [.data, .data, .data, .data, .sentinel, .sentinel, .pinned, .pinned] true (true, "7e13a7eff827cdd1384c8f469564a07ae2360be027abfbed6b1a1be69f58947e") true holds (fun _ h => by cases h) kwf (fun _ h => by cases h) frontPragmas_row_tie rfl ⟨rfl, rfl⟩ kmi rfl
  (fun f fn hf hfn=>by
   obtain rfl:f=3:=Option.some.inj (kna.symm.trans hf) |>.symm
   obtain rfl:fn=Tryz.f3:=(Option.some.inj (Tryz.func3.symm.trans hfn)).symm
   exact⟨klk,fun j t ht=>by
    have hm:t∈Tryz.f3.params.toList:=by simpa using Array.mem_of_getElem? ht
    have hall:(Tryz.f3.params.toList.all fun u=>!Tryz.prog.wantsStandIn u)=true:=ksi
    exact(show Tryz.prog.wantsStandIn t=false by simpa using List.all_eq_true.1 hall t hm)⟩)
  kgo
#print axioms card_holds
end Go.Proofs.YtmgalljhidgnoaaGreatDoor
