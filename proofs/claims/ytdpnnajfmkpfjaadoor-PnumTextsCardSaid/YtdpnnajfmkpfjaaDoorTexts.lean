/-
  What is proved: whatever the arguments, the law PnumTexts answers true and leaves its arguments as they were. Conditions: those of the given row and card, no other.
-/
import Derived.Test.YtdpnnajfmkpfjaaDoorTxtc
import Derived.Test.YtdpnnajfmkpfjaaDoorSterr
import Derived.Test.YtdpnnajfmkpfjaaDoorRows
import Derived.Test.YtdpnnajfmkpfjaaDoorCards
import Derived.Test.YtdpnnajfmkpfjaaDoorTie
import Derived.ProofKit
import Derived.WalkKit
import Derived.Lay
import Derived.MakeChecks
import Derived.SevenTiedAt
import Derived.SizedLaws
import Derived.ChangeMaps5
namespace Go.Proofs.YtdpnnajfmkpfjaaDoor
open Go.ChangeShapes Go.WideShapes Go.ChangeAt Go.RowKit
open Go.Den (S)
open Go.ChangeMaps (open_string shut_string)
theorem own : ownKnob Tryd.prog.godebug = none := by kernel_rfl
theorem laidOut : laidOutB Tryd.prog = true := by kernel_rfl
theorem law {W : World} {L : List Den.Loc} (hs : Den.Sim (Den.mu0 L) Den.h1 W) (hg : Den.Globs (Den.mu0 L) Den.G) (a : ByteArray) :
    Calls Tryd.prog 3 #[.string a] W fun e w' => e = .returned (.bool true) ∧ Below W.heap.size W w' :=
  Den.calls_true (E := Den.env) Den.sw_ok hs hg (Den.own_init Den.own1) Tryd.func3 rfl (by kernel_rfl) (args := [S a.data.toList])
    (show Den.VRs _ _ [Value.string a] from ⟨_, _, rfl, ⟨a, rfl, rfl, rfl⟩, rfl⟩)
    (Den.sw_mono (Den.c3 a.data.toList) fun v h e => by rw [e]; trivial)
set_option maxRecDepth 100000 in
theorem lifted (os : Os) (started : os.Started) (H : Type) (enc : TypeId × Value → H) :
    ReturnsInHanded {} Tryd.checked os 3 .any (fun w args => (Rows.pnumTextsSpec.pre enc Tryd.prog Tryd.f3 [] false w args ∧ laidMetH Tryd.prog Rows.pnumTextsRow.laid w) ∧ sizedMet enc Tryd.prog Tryd.f3 (OpenSpec.ofChange Rows.pnumTextsSpec) false w args)
      (Rows.pnumTextsSpec.post enc Tryd.prog Tryd.f3 false true false false) := by
  refine returnsInHanded_of_change_and (C := Tryd.checked) (X := fun w _ => laidMetH Tryd.prog Rows.pnumTextsRow.laid w) (fun _ _ _ hh h => h.of_heap hh) own started (by kernel_rfl) Tryd.func3
    (ChangeSpec.witness_shaped (enc := enc) (C := Tryd.checked) (os := os) (X := fun w _ => laidMetH Tryd.prog Rows.pnumTextsRow.laid w) false (World.laidAll Tryd.prog os Rows.pnumTextsRow.laid) #[.string ⟨#[]⟩] 8 (World.laidAll_os _ _ _)
      (World.shaped_of_ZipB (by kernel_rfl) (by kernel_rfl)) (by kernel_rfl) (by kernel_rfl) (by kernel_rfl)
      (by rw [MakeChecks.laidMetH_plain _ _ _ (by kernel_rfl)]; exact laidMet_laidAll _ (by kernel_rfl) (by kernel_rfl))) ?_
  intro W base args ds gs before hval0 hW _ _ hL _
  have hval : ∀ (j : Nat) t v, Tryd.f3.params[j]? = some t → args[j]? = some v → Value.okWide Tryd.prog W .any base t v := hval0
  have hW' := hW
  obtain ⟨p, q, hA0, hV, rfl, _, _⟩ := hW
  have hA : DataW.TrodAll enc Tryd.prog W 0 (fun _ => true) true Tryd.f3.params.toList args.toList ds p := hA0
  rw [Tryd.params3] at hA hval
  obtain ⟨v0, d0, rfl, rfl, h0⟩ := trodAll_one hA
  obtain ⟨rfl, rfl⟩ := trodVars_none hV
  obtain ⟨a, rfl, rfl, rfl, wa⟩ := open_string Tryd.underlying9 (hval 0 9 v0 rfl rfl) h0
  obtain ⟨L, s1, s2⟩ := Den.start_err (show laidMetH Den.PP Rows.pnumFormsRow.laid W from hL)
  refine (law s1 s2 a).mono fun e W' ⟨he, hbw⟩ => ?_
  subst he
  exact ⟨_, rfl, Den.law_post laidOut (by kernel_rfl) rfl Tryd.underlying4 hW' rfl rfl hbw⟩
theorem holds : Rows.PnumTextsSaid :=
  OpenClaim.holds_of_wide 3 Tryd.f3 rfl rfl rfl rfl rfl rfl rfl ⟨rfl, rfl, rfl, rfl, rfl⟩ rfl rfl rfl rfl rfl (by kernel_rfl) Tryd.func3 (by kernel_rfl)
    (of_decide_eq_true (by kernel_rfl)) (by unfold Func.isWrapper; first | (rw [if_pos (by decide +kernel)]; kernel_rfl) | (rw [if_neg (by decide +kernel)]; exact ⟨rfl, rfl⟩))
    (fun os started H enc _ => lifted os started H enc)
theorem card_holds : Rows.PnumTextsCardSaid :=
  Claim7.holds_tied_plain_at .later [] [.data, .data, .data, .data, .sentinel, .sentinel, .pinned, .pinned] true (true, "758dfb91ee8c83c7e832b2cf1c02b75187dac30176bd36b4c4625112d6e30088") true holds (fun _ h => by cases h) (by kernel_rfl) (fun _ h => by cases h) pnumTexts_row_tie rfl ⟨rfl, rfl⟩ (by kernel_rfl) rfl
    (fun f fn hf hfn => by
      obtain rfl : f = 3 := Option.some.inj ((show Tryd.prog.funcNamed "oxbow/oxbowlaw13.PnumTexts" = some 3 by kernel_rfl).symm.trans hf) |>.symm
      obtain rfl : fn = Tryd.f3 := (Option.some.inj (Tryd.func3.symm.trans hfn)).symm
      exact ⟨by kernel_rfl, fun j t ht => by
        have hm : t ∈ Tryd.f3.params.toList := by simpa using Array.mem_of_getElem? ht
        have hall : (Tryd.f3.params.toList.all fun u => !Tryd.prog.wantsStandIn u) = true := by kernel_rfl
        exact (show Tryd.prog.wantsStandIn t = false by simpa using List.all_eq_true.1 hall t hm)⟩)
    (by kernel_rfl)
#print axioms card_holds
end Go.Proofs.YtdpnnajfmkpfjaaDoor
