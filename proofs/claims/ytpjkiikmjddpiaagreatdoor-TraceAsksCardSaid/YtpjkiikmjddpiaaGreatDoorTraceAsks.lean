/-
  What is proved: whatever the arguments, the law TraceAsks answers true and leaves its arguments as they were. Conditions: those of the given row and card, no other.
-/
import Derived.Test.YtpjkiikmjddpiaaGreatDoorStt
import Derived.Test.YtpjkiikmjddpiaaGreatDoorAsk
import Derived.Test.YtpjkiikmjddpiaaGreatDoorAww
import Derived.Test.YtpjkiikmjddpiaaGreatDoorTraceAsksk
import Derived.Test.YtpjkiikmjddpiaaGreatDoorRows
import Derived.Test.YtpjkiikmjddpiaaGreatDoorCards
import Derived.Test.YtpjkiikmjddpiaaGreatDoorTie
import Derived.ProofKit
import Derived.WalkKit
import Derived.Lay
import Derived.MakeChecks
import Derived.SevenTiedAt
import Derived.SizedLaws
import Derived.ChangeMaps5
namespace Go.Proofs.YtpjkiikmjddpiaaGreatDoor
open Go.ChangeShapes Go.WideShapes Go.ChangeAt Go.RowKit
theorem law{W:World}{X:List Den.Xt}{v0 v1 v2:Value}{a0 a1:Den.AV}{lf:List Den.Fl}{tl:List Den.TkA}{A:List UInt8}{f t:Int}(hs:Den.Sim (Den.mu0 (Den.xlocs X)) (Den.initH (Den.xobs X)) W)(hg:Den.Globs (Den.mu0 (Den.xlocs X)) Den.G)(ho:(Den.xobs X).all (fun o=>!o.own)=true)
    (h0:Den.VR (Den.mu0 (Den.xlocs X)) a0 v0) (h1:Den.VR (Den.mu0 (Den.xlocs X)) a1 v1) (h2:Den.VR (Den.mu0 (Den.xlocs X)) (.agg [Den.S A,.int .i64 f,.int .i64 t]) v2) (hf:Den.SlE 2 (Den.initH (Den.xobs X)) a0 (Den.fcs lf)) (ht:Den.TkR (Den.initH (Den.xobs X)) a1 tl):
    Calls Tryz.prog 3 #[v0,v1,v2] W fun e w'=>e=.returned (.bool true)∧Below W.heap.size W w':=
  Den.calls_true (E:=Den.env) Den.sw_ok hs hg (Den.own_init ho) Tryz.func3 rfl (by kernel_rfl) (args:=[a0,a1,.agg [Den.S A,.int .i64 f,.int .i64 t]])
    (show Den.VRs _ _ [v0,v1,v2] from⟨_,_,rfl,h0,_,_,rfl,h1,_,_,rfl,h2,rfl⟩)
    (Den.c3 Den.awW hf ht fun _=>trivial)
set_option maxRecDepth 100000 in
theorem lifted(os:Os)(started:os.Started)(H:Type)(enc:TypeId×Value→H):
    ReturnsInHanded {} Tryz.checked os 3 .any (fun w args=>(Rows.traceAsksSpec.pre enc Tryz.prog Tryz.f3 [] false w args∧laidMetH Tryz.prog Rows.traceAsksRow.laid w)∧sizedMet enc Tryz.prog Tryz.f3 (OpenSpec.ofChange Rows.traceAsksSpec) false w args)
      (Rows.traceAsksSpec.post enc Tryz.prog Tryz.f3 false true false false):=by
  refine returnsInHanded_of_change_and (C:=Tryz.checked) (X:=fun w _=>laidMetH Tryz.prog Rows.traceAsksRow.laid w) (fun _ _ _ hh h=>h.of_heap hh) own started (by kernel_rfl) Tryz.func3
    (ChangeSpec.witness_shaped (enc:=enc) (C:=Tryz.checked) (os:=os) (X:=fun w _=>laidMetH Tryz.prog Rows.traceAsksRow.laid w) false (World.laidAll Tryz.prog os Rows.traceAsksRow.laid) #[.slice none 0 0,.slice none 0 0,.agg #[.string ByteArray.empty,.int .i64 0,.int .i64 0]] 8 (World.laidAll_os _ _ _)
      (World.shaped_of_ZipB (by kernel_rfl) (by kernel_rfl)) (by kernel_rfl) (by kernel_rfl) (by kernel_rfl)
      (by rw[MakeChecks.laidMetH_plain _ _ _ (by kernel_rfl)];exact laidMet_laidAll _ (by kernel_rfl) (by kernel_rfl))) ?_
  intro W base args ds gs before hval0 hW _ _ hL _
  have hval:∀(j:Nat) t v,Tryz.f3.params[j]? =some t→args[j]? =some v→Value.okWide Tryz.prog W .any base t v:=hval0
  have hW':=hW
  obtain⟨p,q,hA0,hV,rfl,_,_⟩:=hW
  have hA:DataW.TrodAll enc Tryz.prog W 0 (fun _=>true) true Tryz.f3.params.toList args.toList ds p:=hA0
  rw[Tryz.params3] at hA hval
  obtain⟨v0,v1,v2,d0,d1,d2,p0,p1,p2,rfl,rfl,rfl,h0,h1,h2⟩:=trodAll_three hA
  obtain⟨rfl,rfl⟩:=trodVars_none hV
  obtain⟨lf,tl,A,f,t,a0,a1,X,s1,s2,s3,s4,s5,s6,s7,s8⟩:=Den.start_ask (hval 0 22 v0 rfl rfl) (hval 1 23 v1 rfl rfl) (hval 2 25 v2 rfl rfl) h0 h1 h2
  refine(law s1 s2 s3 s4 s5 s6 s7 s8).mono fun e W' ⟨he,hbw⟩=>?_
  subst he
  exact⟨_,rfl,Den.law_post laidOut (by kernel_rfl) rfl Tryz.underlying4 hW' rfl rfl hbw⟩
theorem holds:Rows.TraceAsksSaid:=
  OpenClaim.holds_of_wide 3 Tryz.f3 rfl rfl rfl rfl rfl rfl rfl ⟨rfl,rfl,rfl,rfl,rfl⟩ rfl rfl rfl rfl rfl kfn Tryz.func3 closed kin kwr
    (fun os started H enc _=>lifted os started H enc)
theorem card_holds:Rows.TraceAsksCardSaid:=
  Claim7.holds_tied_plain_at .later [] [.data, .data, .data, .data, .sentinel, .sentinel, .pinned, .pinned] true (true, "28bad916f6914d817d9e6a2b9bfb5d055b3e66891f2c5e44edc1ccff39e33c26") true holds (fun _ h => by cases h) kwf (fun _ h => by cases h) traceAsks_row_tie rfl ⟨rfl, rfl⟩ kmi rfl
    (fun f fn hf hfn=>by
      obtain rfl:f=3:=Option.some.inj (kna.symm.trans hf) |>.symm
      obtain rfl:fn=Tryz.f3:=(Option.some.inj (Tryz.func3.symm.trans hfn)).symm
      exact⟨klk,fun j t ht=>by
        have hm:t∈Tryz.f3.params.toList:=by simpa using Array.mem_of_getElem? ht
        have hall:(Tryz.f3.params.toList.all fun u=>!Tryz.prog.wantsStandIn u)=true:=ksi
        exact(show Tryz.prog.wantsStandIn t=false by simpa using List.all_eq_true.1 hall t hm)⟩)
    kgo
#print axioms card_holds
end Go.Proofs.YtpjkiikmjddpiaaGreatDoor
