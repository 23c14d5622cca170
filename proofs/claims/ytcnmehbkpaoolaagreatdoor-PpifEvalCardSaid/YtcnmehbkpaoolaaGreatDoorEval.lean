/-
 What is proved: whatever the arguments, the law PpifEval answers true and leaves its arguments as they were. Conditions: those of the given row and card, no other.
-/
import Derived.Test.YtcnmehbkpaoolaaGreatDoorPev
import Derived.Test.YtcnmehbkpaoolaaGreatDoorStok
import Derived.Test.YtcnmehbkpaoolaaGreatDoorEvalk
import Derived.Test.YtcnmehbkpaoolaaGreatDoorCards
import Derived.Test.YtcnmehbkpaoolaaGreatDoorTie
import Derived.ProofKit
import Derived.WalkKit
import Derived.Lay
import Derived.MakeChecks
import Derived.SevenTiedAt
import Derived.SizedLaws
namespace Go.Proofs.YtcnmehbkpaoolaaGreatDoor
open Go.ChangeShapes Go.WideShapes Go.ChangeAt Go.RowKit
theorem law{W:World}{L:List Den.Loc}{obs:List (Den.Ob Den.FT)}{v0:Value}{v:Den.AV}{l:List Den.En}(hs:Den.Sim (Den.mu0 L) (Den.Lf obs) W)(hg:Den.Gy (Den.mu0 L) Den.G)(ho:obs.all (fun o=>!o.own)=true)(hv:Den.VR (Den.mu0 L) v v0)(hb:Den.RdT (Den.Lf obs) v l)(hx:∀x∈l,Den.Sl x.sites)(he:Den.Ky (Den.Lf obs)):
 Calls Tryz.prog 8 #[v0] W fun e w'=>e=.returned (.bool true)∧Below W.heap.size W w':=
 Den.Akm (E:=Den.env) Den.Bw hs hg (Den.Ub ho) Tryz.func8 rfl (by kernel_rfl) (args:=[v])
  (show Den.VRs _ _ [v0] from⟨_,_,rfl,hv,rfl⟩)
  (Den.Awj (Den.c8 hb hx he) fun v h e=>by rw[e];trivial)
set_option maxRecDepth 100000 in
theorem lifted(os:Os)(started:os.Started)(H:Type)(enc:TypeId×Value→H):
 ReturnsInHanded {} Tryz.checked os 8 .any (fun w args=>(Rows.ppifEvalSpec.pre enc Tryz.prog Tryz.f8 [] false w args∧laidMetH Tryz.prog Rows.ppifEvalRow.laid w)∧sizedMet enc Tryz.prog Tryz.f8 (OpenSpec.ofChange Rows.ppifEvalSpec) false w args)
  (Rows.ppifEvalSpec.post enc Tryz.prog Tryz.f8 false true false false):=by
 refine returnsInHanded_of_change_and (C:=Tryz.checked) (X:=fun w _=>laidMetH Tryz.prog Rows.ppifEvalRow.laid w) (fun _ _ _ hh h=>h.of_heap hh) own started (by kernel_rfl) Tryz.func8
  (ChangeSpec.witness_shaped (enc:=enc) (C:=Tryz.checked) (os:=os) (X:=fun w _=>laidMetH Tryz.prog Rows.ppifEvalRow.laid w) false (World.laidAll Tryz.prog os Rows.ppifEvalRow.laid) #[.slice none 0 0] 8 (World.laidAll_os _ _ _)
   (World.shaped_of_ZipB (by kernel_rfl) (by kernel_rfl)) (by kernel_rfl) (by kernel_rfl) (by kernel_rfl)
   (by rw[MakeChecks.laidMetH_plain _ _ _ (by kernel_rfl)];exact laidMet_laidAll _ (by kernel_rfl) (by kernel_rfl))) ?_
 intro W base args ds gs before hval0 hW _ _ hL _
 have hval:∀(j:Nat) t v,Tryz.f8.params[j]? =some t→args[j]? =some v→Value.okWide Tryz.prog W .any base t v:=hval0
 have hW':=hW
 obtain⟨p,q,hA0,hV,rfl,_,_⟩:=hW
 have hA:DataW.TrodAll enc Tryz.prog W 0 (fun _=>true) true Tryz.f8.params.toList args.toList ds p:=hA0
 rw[Tryz.params8] at hA hval
 obtain⟨v0,d0,rfl,rfl,h0⟩:=trodAll_one hA
 obtain⟨rfl,rfl⟩:=trodVars_none hV
 obtain⟨l,v,L,obs,s1,s2,s3,s4,s5,s6,s7⟩:=Den.Ajh (show laidMetH Den.PP Den.Ap3 W from hL) (hval 0 22 v0 rfl rfl) h0
 refine(law s1 s2 s3 s4 s5 s6 s7).mono fun e W' ⟨he,hbw⟩=>?_
 subst he
 exact⟨_,rfl,Den.Asl laidOut (by kernel_rfl) rfl Tryz.underlying4 hW' rfl rfl hbw⟩
theorem holds:Rows.PpifEvalSaid:=
 OpenClaim.holds_of_wide 8 Tryz.f8 rfl rfl rfl rfl rfl rfl rfl ⟨rfl,rfl,rfl,rfl,rfl⟩ rfl rfl rfl rfl rfl kfn Tryz.func8 closed kin kwr
  (fun os started H enc _=>lifted os started H enc)
theorem card_holds:Rows.PpifEvalCardSaid:=
 Claim7.holds_tied_plain_at .later [] [.data, .data, .data, .data, .sentinel, .sentinel, .pinned, .pinned] true (true, "5157361bb7081c3e38638691101a97ca0e18c869a36b86cebd350c8c40e65bb3") true holds (fun _ h => by cases h) kwf (fun _ h => by cases h) ppifEval_row_tie rfl ⟨rfl, rfl⟩ kmi rfl
  (fun f fn hf hfn=>by
   obtain rfl:f=8:=Option.some.inj (kna.symm.trans hf) |>.symm
   obtain rfl:fn=Tryz.f8:=(Option.some.inj (Tryz.func8.symm.trans hfn)).symm
   exact⟨klk,fun j t ht=>by
    have hm:t∈Tryz.f8.params.toList:=by simpa using Array.mem_of_getElem? ht
    have hall:(Tryz.f8.params.toList.all fun u=>!Tryz.prog.wantsStandIn u)=true:=ksi
    exact(show Tryz.prog.wantsStandIn t=false by simpa using List.all_eq_true.1 hall t hm)⟩)
  kgo
#print axioms card_holds
end Go.Proofs.YtcnmehbkpaoolaaGreatDoor
