/-
 What is proved: whatever the arguments, the law ConvertAll answers true and leaves its arguments as they were. Conditions: those of the given row and card, no other.
-/
import Derived.Test.YtcnmehbkpaoolaaGreatDoorCal
import Derived.Test.YtcnmehbkpaoolaaGreatDoorStok
import Derived.Test.YtcnmehbkpaoolaaGreatDoorAllk
import Derived.Test.YtcnmehbkpaoolaaGreatDoorCards
import Derived.Test.YtcnmehbkpaoolaaGreatDoorTie
import Derived.ProofKit
import Derived.WalkKit
import Derived.Lay
import Derived.MakeChecks
import Derived.SevenTiedAt
import Derived.SizedLaws
import Derived.ChangeMaps5
namespace Go.Proofs.YtcnmehbkpaoolaaGreatDoor
open Go.ChangeShapes Go.WideShapes Go.ChangeAt Go.RowKit
open Go.Den (S)
open Go.ChangeMaps (open_string shut_string)
theorem law{W:World}{L:List Den.Loc}{obs:List (Den.Ob Den.FT)}{v0:Value}{v:Den.AV}{l:List Den.Dc}{y:ByteArray}(hs:Den.Sim (Den.mu0 L) (Den.Ky obs) W)(hg:Den.Gm (Den.mu0 L) Den.G)(ho:obs.all (fun o=>!o.own)=true)(hv:Den.VR (Den.mu0 L) v v0)(hb:Den.RdT (Den.Ky obs) v l)(hx:∀x∈l,Den.Sl x.sites)(he:Den.Lw (Den.Ky obs)):
 Calls Tryz.prog 3 #[v0,.string y] W fun e w'=>e=.returned (.bool true)∧Below W.heap.size W w':=
 Den.Alf (E:=Den.env) Den.Bs hs hg (Den.Uf ho) Tryz.func3 rfl (by kernel_rfl) (args:=[v,S y.data.toList])
  (show Den.VRs _ _ [v0,.string y] from⟨_,_,rfl,hv,_,_,rfl,⟨y,rfl,rfl,rfl⟩,rfl⟩)
  (Den.Tt (Den.c3 y.data.toList hb hx he) fun v h e=>by rw[e];trivial)
set_option maxRecDepth 100000 in
theorem lifted(os:Os)(started:os.Started)(H:Type)(enc:TypeId×Value→H):
 ReturnsInHanded {} Tryz.checked os 3 .any (fun w args=>(Rows.convertAllSpec.pre enc Tryz.prog Tryz.f3 [] false w args∧laidMetH Tryz.prog Rows.convertAllRow.laid w)∧sizedMet enc Tryz.prog Tryz.f3 (OpenSpec.ofChange Rows.convertAllSpec) false w args)
  (Rows.convertAllSpec.post enc Tryz.prog Tryz.f3 false true false false):=by
 refine returnsInHanded_of_change_and (C:=Tryz.checked) (X:=fun w _=>laidMetH Tryz.prog Rows.convertAllRow.laid w) (fun _ _ _ hh h=>h.of_heap hh) own started (by kernel_rfl) Tryz.func3
  (ChangeSpec.witness_shaped (enc:=enc) (C:=Tryz.checked) (os:=os) (X:=fun w _=>laidMetH Tryz.prog Rows.convertAllRow.laid w) false (World.laidAll Tryz.prog os Rows.convertAllRow.laid) #[.slice none 0 0,.string ⟨#[]⟩] 8 (World.laidAll_os _ _ _)
   (World.shaped_of_ZipB (by kernel_rfl) (by kernel_rfl)) (by kernel_rfl) (by kernel_rfl) (by kernel_rfl)
   (by rw[MakeChecks.laidMetH_plain _ _ _ (by kernel_rfl)];exact laidMet_laidAll _ (by kernel_rfl) (by kernel_rfl))) ?_
 intro W base args ds gs before hval0 hW _ _ hL _
 have hval:∀(j:Nat) t v,Tryz.f3.params[j]? =some t→args[j]? =some v→Value.okWide Tryz.prog W .any base t v:=hval0
 have hW':=hW
 obtain⟨p,q,hA0,hV,rfl,_,_⟩:=hW
 have hA:DataW.TrodAll enc Tryz.prog W 0 (fun _=>true) true Tryz.f3.params.toList args.toList ds p:=hA0
 rw[Tryz.params3] at hA hval
 obtain⟨v0,v1,d0,d1,p0,p1,rfl,rfl,rfl,h0,h1⟩:=trodAll_two hA
 obtain⟨rfl,rfl⟩:=trodVars_none hV
 obtain⟨y,rfl,rfl,rfl,wy⟩:=open_string Tryz.underlying9 (hval 1 9 v1 rfl rfl) h1
 obtain⟨l,v,L,obs,s1,s2,s3,s4,s5,s6,s7⟩:=Den.Aj1 (show laidMetH Den.PP Den.Ajo W from hL) (hval 0 22 v0 rfl rfl) h0
 refine(law s1 s2 s3 s4 s5 s6 s7).mono fun e W' ⟨he,hbw⟩=>?_
 subst he
 exact⟨_,rfl,Den.Atw laidOut (by kernel_rfl) rfl Tryz.underlying4 hW' rfl rfl hbw⟩
theorem holds:Rows.ConvertAllSaid:=
 OpenClaim.holds_of_wide 3 Tryz.f3 rfl rfl rfl rfl rfl rfl rfl ⟨rfl,rfl,rfl,rfl,rfl⟩ rfl rfl rfl rfl rfl kfn Tryz.func3 closed kin kwr
  (fun os started H enc _=>lifted os started H enc)
theorem card_holds:Rows.ConvertAllCardSaid:=
 Claim7.holds_tied_plain_at .later [] [.data, .data, .data, .data, .sentinel, .sentinel, .listed, .data, .pinned, .pinned] true (true, "5157361bb7081c3e38638691101a97ca0e18c869a36b86cebd350c8c40e65bb3") true holds (fun _ h => by cases h) kwf (fun _ h => by cases h) convertAll_row_tie rfl ⟨rfl, rfl⟩ kmi rfl
  (fun f fn hf hfn=>by
   obtain rfl:f=3:=Option.some.inj (kna.symm.trans hf) |>.symm
   obtain rfl:fn=Tryz.f3:=(Option.some.inj (Tryz.func3.symm.trans hfn)).symm
   exact⟨klk,fun j t ht=>by
    have hm:t∈Tryz.f3.params.toList:=by simpa using Array.mem_of_getElem? ht
    have hall:(Tryz.f3.params.toList.all fun u=>!Tryz.prog.wantsStandIn u)=true:=ksi
    exact(show Tryz.prog.wantsStandIn t=false by simpa using List.all_eq_true.1 hall t hm)⟩)
  kgo
#print axioms card_holds
end Go.Proofs.YtcnmehbkpaoolaaGreatDoor
