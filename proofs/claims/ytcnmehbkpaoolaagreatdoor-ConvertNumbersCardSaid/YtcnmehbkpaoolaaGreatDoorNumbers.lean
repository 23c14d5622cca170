/-
 What is proved: whatever the arguments, the law ConvertNumbers answers true and leaves its arguments as they were. Conditions: row's and card's.
-/
import Derived.Test.YtcnmehbkpaoolaaGreatDoorStarn
import Derived.Test.YtcnmehbkpaoolaaGreatDoorNumbersk
import Derived.Test.YtcnmehbkpaoolaaGreatDoorCards
import Derived.Test.YtcnmehbkpaoolaaGreatDoorTie
import Derived.ProofKit
import Derived.WalkKit
import Derived.Lay
import Derived.MakeChecks
import Derived.SevenTiedAt
import Derived.SizedLaws
namespace Go.Proofs.YtcnmehbkpaoolaaGreatDoor
open Go.ChangeShapes Go.WideShapes Go.ChangeAt Go.RowKit
theorem law {W : World} {L : List Den.Loc} {obs : List (Den.Ob Den.FT)} {v0 : Value} {v : Den.AV} {l : List Int} (hs : Den.Sim (Den.mu0 L) (Den.Kl obs) W) (hg : Den.Fy (Den.mu0 L) Den.G) (ho : obs.all (fun o => !o.own) = true) (hv : Den.VR (Den.mu0 L) v v0) (hb : Den.Itz (Den.Kl obs) v l) (he : Den.Jj (Den.Kl obs)) :
    Calls Tryz.prog 7 #[v0] W fun e w' => e = .returned (.bool true) ∧ Below W.heap.size W w' :=
  Den.Al1 (E := Den.env) Den.Bm hs hg (Den.Uh ho) Tryz.func7 rfl (by kernel_rfl) (args := [v])
    (show Den.VRs _ _ [v0] from ⟨_, _, rfl, hv, rfl⟩)
    (Den.Tu (Den.c7 he hb) fun v h e => by rw [e]; trivial)
set_option maxRecDepth 100000 in
theorem lifted (os : Os) (started : os.Started) (H : Type) (enc : TypeId × Value → H) :
    ReturnsInHanded {} Tryz.checked os 7 .any (fun w args => (Rows.convertNumbersSpec.pre enc Tryz.prog Tryz.f7 [] false w args ∧ laidMetH Tryz.prog Rows.convertNumbersRow.laid w) ∧ sizedMet enc Tryz.prog Tryz.f7 (OpenSpec.ofChange Rows.convertNumbersSpec) false w args)
      (Rows.convertNumbersSpec.post enc Tryz.prog Tryz.f7 false true false false) := by
  refine returnsInHanded_of_change_and (C := Tryz.checked) (X := fun w _ => laidMetH Tryz.prog Rows.convertNumbersRow.laid w) (fun _ _ _ hh h => h.of_heap hh) own started (by kernel_rfl) Tryz.func7
    (ChangeSpec.witness_shaped (enc := enc) (C := Tryz.checked) (os := os) (X := fun w _ => laidMetH Tryz.prog Rows.convertNumbersRow.laid w) false (World.laidAll Tryz.prog os Rows.convertNumbersRow.laid) #[.slice none 0 0] 8 (World.laidAll_os _ _ _)
      (World.shaped_of_ZipB (by kernel_rfl) (by kernel_rfl)) (by kernel_rfl) (by kernel_rfl) (by kernel_rfl)
      (by rw [MakeChecks.laidMetH_plain _ _ _ (by kernel_rfl)]; exact laidMet_laidAll _ (by kernel_rfl) (by kernel_rfl))) ?_
  intro W base args ds gs before hval0 hW _ _ hL _
  have hval : ∀ (j : Nat) t v, Tryz.f7.params[j]? = some t → args[j]? = some v → Value.okWide Tryz.prog W .any base t v := hval0
  have hW' := hW
  obtain ⟨p, q, hA0, hV, rfl, _, _⟩ := hW
  have hA : DataW.TrodAll enc Tryz.prog W 0 (fun _ => true) true Tryz.f7.params.toList args.toList ds p := hA0
  rw [Tryz.params7] at hA hval
  obtain ⟨v0, d0, rfl, rfl, h0⟩ := trodAll_one hA
  obtain ⟨rfl, rfl⟩ := trodVars_none hV
  obtain ⟨l, v, L, obs, s1, s2, s3, s4, s5, s6⟩ := Den.Akj (show laidMetH Den.PP Den.Aj5 W from hL) (hval 0 51 v0 rfl rfl) h0
  refine (law s1 s2 s3 s4 s5 s6).mono fun e W' ⟨he, hbw⟩ => ?_
  subst he
  exact ⟨_, rfl, Den.Atz laidOut (by kernel_rfl) rfl Tryz.underlying4 hW' rfl rfl hbw⟩
theorem holds : Rows.ConvertNumbersSaid :=
 OpenClaim.holds_of_wide 7 Tryz.f7 rfl rfl rfl rfl rfl rfl rfl ⟨rfl, rfl, rfl, rfl, rfl⟩ rfl rfl rfl rfl rfl kfn Tryz.func7 closed kin kwr
  (fun os started H enc _ => lifted os started H enc)
theorem card_holds : Rows.ConvertNumbersCardSaid :=
 Claim7.holds_tied_plain_at .later [] [.data, .data, .data, .data, .sentinel, .sentinel, .listed, .data, .pinned, .pinned] true (true, "5157361bb7081c3e38638691101a97ca0e18c869a36b86cebd350c8c40e65bb3") true holds (fun _ h => by cases h) kwf (fun _ h => by cases h) convertNumbers_row_tie rfl ⟨rfl, rfl⟩ kmi rfl
  (fun f fn hf hfn => by
   obtain rfl : f = 7 := Option.some.inj (kna.symm.trans hf) |>.symm
   obtain rfl : fn = Tryz.f7 := (Option.some.inj (Tryz.func7.symm.trans hfn)).symm
   exact ⟨klk, fun j t ht => by
    have hm : t ∈ Tryz.f7.params.toList := by simpa using Array.mem_of_getElem? ht
    have hall : (Tryz.f7.params.toList.all fun u => !Tryz.prog.wantsStandIn u) = true := ksi
    exact (show Tryz.prog.wantsStandIn t = false by simpa using List.all_eq_true.1 hall t hm)⟩)
  kgo
#print axioms card_holds
end Go.Proofs.YtcnmehbkpaoolaaGreatDoor
