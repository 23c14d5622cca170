/-
  What is proved: whatever the arguments, the law HeaderSpaces answers true and leaves its arguments as they were. Conditions: those of the given row and card, no other.
-/
import Derived.Test.YtdpnnajfmkpfjaaGreatDoorStrt
import Derived.SliceStrings
import Derived.Test.YtdpnnajfmkpfjaaGreatDoorRows
import Derived.Test.YtdpnnajfmkpfjaaGreatDoorCards
import Derived.Test.YtdpnnajfmkpfjaaGreatDoorTie
import Derived.ProofKit
import Derived.WalkKit
import Derived.Lay
import Derived.MakeChecks
import Derived.SevenTiedAt
import Derived.SizedLaws
import Derived.ChangeMaps5
namespace Go.Proofs.YtdpnnajfmkpfjaaGreatDoor
open Go.ChangeShapes Go.WideShapes Go.ChangeAt Go.RowKit
open Go.Den (S)
open Go.ChangeMaps (open_string shut_string)
theorem own : ownKnob Tryz.prog.godebug = none := by kernel_rfl
theorem laidOut : laidOutB Tryz.prog = true := by kernel_rfl
theorem law {W : World} {L : List Den.Loc} {obs : List (Den.Ob Den.FT)} {v0 : Value} {v : Den.AV} {l : List (List UInt8)} (hs : Den.Sim (Den.mu0 L) (Den.initH obs) W) (hg : Den.Globs (Den.mu0 L) Den.G) (ho : obs.all (fun o => !o.own) = true) (hv : Den.VR (Den.mu0 L) v v0) (hb : Den.Wrds (Den.initH obs) v l) (hl : ∀ w ∈ l, w.length ≤ 9223372036854775807) (n : Int) :
    Calls Tryz.prog 4 #[v0, .int .i64 n] W fun e w' => e = .returned (.bool true) ∧ Below W.heap.size W w' :=
  Den.calls_true (E := Den.env) Den.sw_ok hs hg (Den.own_init ho) Tryz.func4 rfl (by kernel_rfl) (args := [v, .int .i64 n])
    (show Den.VRs _ _ [v0, .int .i64 n] from ⟨_, _, rfl, hv, _, _, rfl, rfl, rfl⟩)
    (Den.sw_mono (Den.c4 hb hl) fun v h e => by rw [e]; trivial)
set_option maxRecDepth 100000 in
theorem lifted (os : Os) (started : os.Started) (H : Type) (enc : TypeId × Value → H) :
    ReturnsInHanded {} Tryz.checked os 4 .any (fun w args => (Rows.headerSpacesSpec.pre enc Tryz.prog Tryz.f4 [] false w args ∧ laidMetH Tryz.prog Rows.headerSpacesRow.laid w) ∧ sizedMet enc Tryz.prog Tryz.f4 (OpenSpec.ofChange Rows.headerSpacesSpec) false w args)
      (Rows.headerSpacesSpec.post enc Tryz.prog Tryz.f4 false true false false) := by
  refine returnsInHanded_of_change_and (C := Tryz.checked) (X := fun w _ => laidMetH Tryz.prog Rows.headerSpacesRow.laid w) (fun _ _ _ hh h => h.of_heap hh) own started (by kernel_rfl) Tryz.func4
    (ChangeSpec.witness_shaped (enc := enc) (C := Tryz.checked) (os := os) (X := fun w _ => laidMetH Tryz.prog Rows.headerSpacesRow.laid w) false (World.laidAll Tryz.prog os Rows.headerSpacesRow.laid) #[.slice none 0 0, .int .i64 0] 8 (World.laidAll_os _ _ _)
      (World.shaped_of_ZipB (by kernel_rfl) (by kernel_rfl)) (by kernel_rfl) (by kernel_rfl) (by kernel_rfl)
      (by rw [MakeChecks.laidMetH_plain _ _ _ (by kernel_rfl)]; exact laidMet_laidAll _ (by kernel_rfl) (by kernel_rfl))) ?_
  intro W base args ds gs before hval0 hW _ _ _ _
  have hval : ∀ (j : Nat) t v, Tryz.f4.params[j]? = some t → args[j]? = some v → Value.okWide Tryz.prog W .any base t v := hval0
  have hW' := hW
  obtain ⟨p, q, hA0, hV, rfl, _, _⟩ := hW
  have hA : DataW.TrodAll enc Tryz.prog W 0 (fun _ => true) true Tryz.f4.params.toList args.toList ds p := hA0
  rw [Tryz.params4] at hA hval
  obtain ⟨v0, v1, d0, d1, p0, p1, rfl, rfl, rfl, h0, h1⟩ := trodAll_two hA
  obtain ⟨rfl, rfl⟩ := trodVars_none hV
  obtain ⟨n, rfl, rfl, rfl, wn⟩ := open_int Tryz.underlying3 (hval 1 3 v1 rfl rfl) h1
  obtain ⟨l, v, L, obs, s1, s2, s3, s4, s5, s6⟩ := Den.start_strings (hval 0 33 v0 rfl rfl) h0
  refine (law s1 s2 s3 s4 s5 s6 n).mono fun e W' ⟨he, hbw⟩ => ?_
  subst he
  exact ⟨_, rfl, Den.law_post laidOut (by kernel_rfl) rfl Tryz.underlying4 hW' rfl rfl hbw⟩
theorem holds : Rows.HeaderSpacesSaid :=
  OpenClaim.holds_of_wide 4 Tryz.f4 rfl rfl rfl rfl rfl rfl rfl ⟨rfl, rfl, rfl, rfl, rfl⟩ rfl rfl rfl rfl rfl (by kernel_rfl) Tryz.func4 (by kernel_rfl)
    (of_decide_eq_true (by kernel_rfl)) (by unfold Func.isWrapper; first | (rw [if_pos (by decide +kernel)]; kernel_rfl) | (rw [if_neg (by decide +kernel)]; exact ⟨rfl, rfl⟩))
    (fun os started H enc _ => lifted os started H enc)
theorem card_holds : Rows.HeaderSpacesCardSaid :=
  Claim7.holds_tied_plain_at .later [] [.data, .data, .data, .data, .sentinel, .sentinel, .pinned, .pinned] true (true, "e91c4a042fdbc0fafb26afe98e49d8fb0172b27d401770e34b674dcc90570aa2") true holds (fun _ h => by cases h) (by kernel_rfl) (fun _ h => by cases h) headerSpaces_row_tie rfl ⟨rfl, rfl⟩ (by kernel_rfl) rfl
    (fun f fn hf hfn => by
      obtain rfl : f = 4 := Option.some.inj ((show Tryz.prog.funcNamed "oxbow/oxbowlaw15.HeaderSpaces" = some 4 by kernel_rfl).symm.trans hf) |>.symm
      obtain rfl : fn = Tryz.f4 := (Option.some.inj (Tryz.func4.symm.trans hfn)).symm
      exact ⟨by kernel_rfl, fun j t ht => by
        have hm : t ∈ Tryz.f4.params.toList := by simpa using Array.mem_of_getElem? ht
        have hall : (Tryz.f4.params.toList.all fun u => !Tryz.prog.wantsStandIn u) = true := by kernel_rfl
        exact (show Tryz.prog.wantsStandIn t = false by simpa using List.all_eq_true.1 hall t hm)⟩)
    (by kernel_rfl)
#print axioms card_holds
end Go.Proofs.YtdpnnajfmkpfjaaGreatDoor
