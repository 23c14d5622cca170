/-
  What is proved: whatever the arguments, the law TraceMade answers true and leaves its arguments as they were. Conditions: those of the given row and card, no other.
-/
import Derived.Test.YtpnfpdmkladmpaaGreatDoorTma
import Derived.Test.YtpnfpdmkladmpaaGreatDoorRows
import Derived.Test.YtpnfpdmkladmpaaGreatDoorCards
import Derived.Test.YtpnfpdmkladmpaaGreatDoorTie
import Derived.Test.YtpnfpdmkladmpaaGreatDoorTmk
import Derived.ProofKit
import Derived.WalkKit
import Derived.Lay
import Derived.MakeChecks
import Derived.SevenTiedAt
import Derived.SizedLaws
import Derived.ChangeMaps5
namespace Go.Proofs.YtpnfpdmkladmpaaGreatDoor
open Go.ChangeShapes Go.WideShapes Go.ChangeAt Go.RowKit
open Go.Den (S)
open Go.ChangeMaps (open_string shut_string)
set_option maxRecDepth 100000 in
/-- what it answers -/
theorem answers (a d : Int) : ∃ c : Den.Caller Prop Den.FT, Den.CallOk Tryz.prog (Den.CP Den.env) Den.G (fun p => p) c ∧ c (.func 6) [.int .i64 a, .int .i64 d] Den.h0 Den.isT := by
  by_cases hl : 0 ≤ a ∧ a ≤ 20
  · obtain ⟨n, rfl⟩ : ∃ n : Nat, a = Int.ofNat n := ⟨a.toNat, by show a = ((a.toNat : Nat) : Int); omega⟩
    have h2 : n ≤ 20 := by have : (n : Int) ≤ 20 := hl.2; omega
    obtain ⟨r, hr, hp⟩ := Den.c8 d (m := 8) (by omega) (by omega)
    exact ⟨_, Den.callsO_ok (fun hk => Den.use2 hp hk) 1000 100, Den.runs n h2 r hr d⟩
  · refine ⟨Den.W1, Den.sw_ok, Den.w6 (n := 1) Den.sw_ok (show Den.s6_0 Den.W1 Den.isT (Den.r6 Den.W1 Den.isT 0) a d Den.h0 from ?_)⟩
    unfold Den.s6_0
    refine Den.or_b (Den.cnd_t ?_ (Den.use2 Den.c11 ?_))
    · cases e1 : Den.iblt a (Int.ofNat 0) with
      | true => rfl
      | false =>
        have e2 : (a < 0) = False := by
          have := Den.iblt_eq a (Int.ofNat 0)
          rw [e1] at this
          simpa using this
        show Den.iblt (Int.ofNat 20) a = true
        rw [Den.iblt_eq]
        have : ¬ (a < 0) := by rw [e2]; exact id
        have : (20 : Int) < a := by omega
        simpa using this
    · rw [Den.asB_b]
      trivial
theorem law {W : World} (l d : Int) : Calls Tryz.prog 6 #[.int .i64 l, .int .i64 d] W fun e w' => e = .returned (.bool true) ∧ Below W.heap.size W w' := by
  obtain ⟨c, hc, hg⟩ := answers l d
  exact Den.calls_true (E := Den.env) hc (Den.sim0 W) Den.globs0 (Den.own_init rfl) Tryz.func6 rfl (by kernel_rfl) (args := [.int .i64 l, .int .i64 d])
    (show Den.VRs _ _ [Value.int .i64 l, .int .i64 d] from ⟨_, _, rfl, rfl, _, _, rfl, rfl, rfl⟩) hg
set_option maxRecDepth 100000 in
theorem lifted (os : Os) (started : os.Started) (H : Type) (enc : TypeId × Value → H) :
    ReturnsInHanded {} Tryz.checked os 6 .any (fun w args => (Rows.traceMadeSpec.pre enc Tryz.prog Tryz.f6 [] false w args ∧ laidMetH Tryz.prog Rows.traceMadeRow.laid w) ∧ sizedMet enc Tryz.prog Tryz.f6 (OpenSpec.ofChange Rows.traceMadeSpec) false w args)
      (Rows.traceMadeSpec.post enc Tryz.prog Tryz.f6 false true false false) := by
  refine returnsInHanded_of_change_and (C := Tryz.checked) (X := fun w _ => laidMetH Tryz.prog Rows.traceMadeRow.laid w) (fun _ _ _ hh h => h.of_heap hh) own started (by kernel_rfl) Tryz.func6
    (ChangeSpec.witness_shaped (enc := enc) (C := Tryz.checked) (os := os) (X := fun w _ => laidMetH Tryz.prog Rows.traceMadeRow.laid w) false (World.laidAll Tryz.prog os Rows.traceMadeRow.laid) #[.int .i64 0, .int .i64 0] 8 (World.laidAll_os _ _ _)
      (World.shaped_of_ZipB (by kernel_rfl) (by kernel_rfl)) (by kernel_rfl) (by kernel_rfl) (by kernel_rfl)
      (by rw [MakeChecks.laidMetH_plain _ _ _ (by kernel_rfl)]; exact laidMet_laidAll _ (by kernel_rfl) (by kernel_rfl))) ?_
  intro W base args ds gs before hval0 hW _ _ hL _
  have hval : ∀ (j : Nat) t v, Tryz.f6.params[j]? = some t → args[j]? = some v → Value.okWide Tryz.prog W .any base t v := hval0
  have hW' := hW
  obtain ⟨p, q, hA0, hV, rfl, _, _⟩ := hW
  have hA : DataW.TrodAll enc Tryz.prog W 0 (fun _ => true) true Tryz.f6.params.toList args.toList ds p := hA0
  rw [Tryz.params6] at hA hval
  obtain ⟨v0, v1, d0, d1, p0, p1, rfl, rfl, rfl, h0, h1⟩ := trodAll_two hA
  obtain ⟨rfl, rfl⟩ := trodVars_none hV
  obtain ⟨z, rfl, rfl, rfl, wz⟩ := open_int Tryz.underlying3 (hval 0 3 v0 rfl rfl) h0
  obtain ⟨n, rfl, rfl, rfl, wn⟩ := open_int Tryz.underlying3 (hval 1 3 v1 rfl rfl) h1
  refine (law z n).mono fun e W' ⟨he, hbw⟩ => ?_
  subst he
  exact ⟨_, rfl, Den.law_post laidOut (by kernel_rfl) rfl Tryz.underlying4 hW' rfl rfl hbw⟩
theorem holds : Rows.TraceMadeSaid :=
  OpenClaim.holds_of_wide 6 Tryz.f6 rfl rfl rfl rfl rfl rfl rfl ⟨rfl, rfl, rfl, rfl, rfl⟩ rfl rfl rfl rfl rfl kfn Tryz.func6 closed kin kwr
    (fun os started H enc _ => lifted os started H enc)
theorem card_holds : Rows.TraceMadeCardSaid :=
  Claim7.holds_tied_plain_at .later [] [.data, .data, .data, .data, .sentinel, .sentinel, .pinned, .pinned] true (true, "f44942976687981aa042d7cba9a8e150217d8e9153a44963ba3d0d5ecd1b63b7") true holds (fun _ h => by cases h) kwf (fun _ h => by cases h) traceMade_row_tie rfl ⟨rfl, rfl⟩ kmi rfl
    (fun f fn hf hfn => by
      obtain rfl : f = 6 := Option.some.inj (kna.symm.trans hf) |>.symm
      obtain rfl : fn = Tryz.f6 := (Option.some.inj (Tryz.func6.symm.trans hfn)).symm
      exact ⟨klk, fun j t ht => by
        have hm : t ∈ Tryz.f6.params.toList := by simpa using Array.mem_of_getElem? ht
        have hall : (Tryz.f6.params.toList.all fun u => !Tryz.prog.wantsStandIn u) = true := ksi
        exact (show Tryz.prog.wantsStandIn t = false by simpa using List.all_eq_true.1 hall t hm)⟩)
    kgo
#print axioms card_holds
end Go.Proofs.YtpnfpdmkladmpaaGreatDoor
