/-
  What is proved: whatever the arguments, the law TraceSites answers true and leaves its arguments as they were. Conditions: those of the given row and card, no other.
-/
import Derived.Test.YtbjfkibkjjmdnaaGreatDoorTraceSitesa
import Derived.Test.YtbjfkibkjjmdnaaGreatDoorTraceSitesk
import Derived.Test.YtbjfkibkjjmdnaaGreatDoorRows
import Derived.Test.YtbjfkibkjjmdnaaGreatDoorCards
import Derived.Test.YtbjfkibkjjmdnaaGreatDoorTie
import Derived.ProofKit
import Derived.WalkKit
import Derived.Lay
import Derived.MakeChecks
import Derived.SevenTiedAt
import Derived.SizedLaws
import Derived.ChangeMaps5
namespace Go.Proofs.YtbjfkibkjjmdnaaGreatDoor
open Go.ChangeShapes Go.WideShapes Go.ChangeAt Go.RowKit
/-- what it answers -/
theorem answers (x0 x1 : Int) : ∃ c : Den.Caller Prop Den.FT, Den.CallOk Tryz.prog (Den.CP Den.env) Den.G (fun p => p) c ∧ c (.func 3) [.int .i64 x0, .int .i64 x1] Den.h0 Den.isT := by
  by_cases hr : x0 < 1 ∨ 15 < x0 ∨ x1 < 0 ∨ 10 < x1
  · exact ⟨_, Den.callsT_ok (fun hk => Den.use2 Den.c6 hk) 1 3, Den.out_ok hr⟩
  · obtain ⟨m, rfl⟩ : ∃ m : Nat, x0 = Int.ofNat m := ⟨x0.toNat, by show x0 = ((x0.toNat : Nat) : Int); omega⟩
    obtain ⟨l, rfl⟩ : ∃ l : Nat, x1 = Int.ofNat l := ⟨x1.toNat, by show x1 = ((x1.toNat : Nat) : Int); omega⟩
    have hr : ¬ ((m : Int) < 1 ∨ (15 : Int) < (m : Int) ∨ (l : Int) < 0 ∨ (10 : Int) < (l : Int)) := hr
    exact ⟨_, Den.callsT_ok (fun hk => Den.use2 Den.c6 hk) 5000 2000, (Den.runs m (by omega) (by omega) l (by omega)).mpr trivial⟩
theorem law {W : World} (x0 : Int) (x1 : Int) : Calls Tryz.prog 3 #[.int .i64 x0, .int .i64 x1] W fun e w' => e = .returned (.bool true) ∧ Below W.heap.size W w' := by
  obtain ⟨c, hc, hg⟩ := answers x0 x1
  exact Den.calls_true (E := Den.env) hc (Den.sim0 W) Den.globs0 (Den.own_init rfl) Tryz.func3 rfl (by kernel_rfl) (args := [.int .i64 x0, .int .i64 x1])
    (show Den.VRs _ _ [Value.int .i64 x0, .int .i64 x1] from ⟨_, _, rfl, rfl, ⟨_, _, rfl, rfl, rfl⟩⟩) hg
set_option maxRecDepth 100000 in
theorem lifted (os : Os) (started : os.Started) (H : Type) (enc : TypeId × Value → H) :
    ReturnsInHanded {} Tryz.checked os 3 .any (fun w args => (Rows.traceSitesSpec.pre enc Tryz.prog Tryz.f3 [] false w args ∧ laidMetH Tryz.prog Rows.traceSitesRow.laid w) ∧ sizedMet enc Tryz.prog Tryz.f3 (OpenSpec.ofChange Rows.traceSitesSpec) false w args)
      (Rows.traceSitesSpec.post enc Tryz.prog Tryz.f3 false true false false) := by
  refine returnsInHanded_of_change_and (C := Tryz.checked) (X := fun w _ => laidMetH Tryz.prog Rows.traceSitesRow.laid w) (fun _ _ _ hh h => h.of_heap hh) own started (by kernel_rfl) Tryz.func3
    (ChangeSpec.witness_shaped (enc := enc) (C := Tryz.checked) (os := os) (X := fun w _ => laidMetH Tryz.prog Rows.traceSitesRow.laid w) false (World.laidAll Tryz.prog os Rows.traceSitesRow.laid) #[.int .i64 0, .int .i64 0] 8 (World.laidAll_os _ _ _)
      (World.shaped_of_ZipB (by kernel_rfl) (by kernel_rfl)) (by kernel_rfl) (by kernel_rfl) (by kernel_rfl)
      (by rw [MakeChecks.laidMetH_plain _ _ _ (by kernel_rfl)]; exact laidMet_laidAll _ (by kernel_rfl) (by kernel_rfl))) ?_
  intro W base args ds gs before hval0 hW _ _ hL _
  have hval : ∀ (j : Nat) t v, Tryz.f3.params[j]? = some t → args[j]? = some v → Value.okWide Tryz.prog W .any base t v := hval0
  have hW' := hW
  obtain ⟨p, q, hA0, hV, rfl, _, _⟩ := hW
  have hA : DataW.TrodAll enc Tryz.prog W 0 (fun _ => true) true Tryz.f3.params.toList args.toList ds p := hA0
  rw [Tryz.params3] at hA hval
  obtain ⟨v0, v1, d0, d1, p0, p1, rfl, rfl, rfl, h0, h1⟩ := trodAll_two hA
  obtain ⟨rfl, rfl⟩ := trodVars_none hV
  obtain ⟨x0, rfl, rfl, rfl, _⟩ := open_int Tryz.underlying3 (hval 0 3 v0 rfl rfl) h0
  obtain ⟨x1, rfl, rfl, rfl, _⟩ := open_int Tryz.underlying3 (hval 1 3 v1 rfl rfl) h1
  refine (law x0 x1).mono fun e W' ⟨he, hbw⟩ => ?_
  subst he
  exact ⟨_, rfl, Den.law_post laidOut (by kernel_rfl) rfl Tryz.underlying4 hW' rfl rfl hbw⟩
theorem holds : Rows.TraceSitesSaid :=
  OpenClaim.holds_of_wide 3 Tryz.f3 rfl rfl rfl rfl rfl rfl rfl ⟨rfl, rfl, rfl, rfl, rfl⟩ rfl rfl rfl rfl rfl kfn Tryz.func3 closed kin kwr
    (fun os started H enc _ => lifted os started H enc)
theorem card_holds : Rows.TraceSitesCardSaid :=
  Claim7.holds_tied_plain_at .later [] [.data, .data, .data, .data, .sentinel, .sentinel, .pinned, .pinned] true (true, "42132176359eb312c9846b0473b023c2c07f0d104e0109a4f2beb4385236f400") true holds (fun _ h => by cases h) kwf (fun _ h => by cases h) traceSites_row_tie rfl ⟨rfl, rfl⟩ kmi rfl
    (fun f fn hf hfn => by
      obtain rfl : f = 3 := Option.some.inj (kna.symm.trans hf) |>.symm
      obtain rfl : fn = Tryz.f3 := (Option.some.inj (Tryz.func3.symm.trans hfn)).symm
      exact ⟨klk, fun j t ht => by
        have hm : t ∈ Tryz.f3.params.toList := by simpa using Array.mem_of_getElem? ht
        have hall : (Tryz.f3.params.toList.all fun u => !Tryz.prog.wantsStandIn u) = true := ksi
        exact (show Tryz.prog.wantsStandIn t = false by simpa using List.all_eq_true.1 hall t hm)⟩)
    kgo
#print axioms card_holds
end Go.Proofs.YtbjfkibkjjmdnaaGreatDoor
