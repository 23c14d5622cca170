/-
 What is proved: whatever the arguments, the law ConvertStrings answers true and leaves its arguments as they were. Conditions: row's and card's.
-/
import Derived.Test.YtcnmehbkpaoolaaGreatDoorStarst
import Derived.Test.YtcnmehbkpaoolaaGreatDoorStringsk
import Derived.Test.YtcnmehbkpaoolaaGreatDoorCards
import Derived.Test.YtcnmehbkpaoolaaGreatDoorTie
import Derived.ProofKit
import Derived.WalkKit
import Derived.Lay
import Derived.MakeChecks
import Derived.SevenTiedAt
import Derived.SizedLaws
namespace Go.Proofs.YtcnmehbkpaoolaaGreatDoor
open Go.ChangeShapes Go.WideShapes Go.ChangeAt Go.RowKit
theorem law {W : World} {L : List Den.Loc} {obs : List (Den.Ob Den.FT)} {v0 : Value} {v : Den.AV} {l : List (List UInt8)} (hs : Den.Sim (Den.mu0 L) (Den.Kk obs) W) (hg : Den.Fy (Den.mu0 L) Den.G) (ho : obs.all (fun o => !o.own) = true) (hv : Den.VR (Den.mu0 L) v v0) (hb : Den.Stz (Den.Kk obs) v l) (he : Den.Jz (Den.Kk obs)) (x y : Int) :
 Calls Tryz.prog 5 #[v0, .int .i64 x, .int .i64 y] W fun e w' => e = .returned (.bool true) ∧ Below W.heap.size W w' :=
 Den.Al0 (E := Den.env) Den.Bn hs hg (Den.Ud ho) Tryz.func5 rfl (by kernel_rfl) (args := [v, .int .i64 x, .int .i64 y])
  (show Den.VRs _ _ [v0, .int .i64 x, .int .i64 y] from ⟨_, _, rfl, hv, _, _, rfl, rfl, _, _, rfl, rfl, rfl⟩)
  (Den.Tp (Den.c5 he hb x y) fun v h e => by rw [e]; trivial)
set_option maxRecDepth 100000 in
theorem lifted (os : Os) (started : os.Started) (H : Type) (enc : TypeId × Value → H) :
 ReturnsInHanded {} Tryz.checked os 5 .any (fun w args => (Rows.convertStringsSpec.pre enc Tryz.prog Tryz.f5 [] false w args ∧ laidMetH Tryz.prog Rows.convertStringsRow.laid w) ∧ sizedMet enc Tryz.prog Tryz.f5 (OpenSpec.ofChange Rows.convertStringsSpec) false w args)
  (Rows.convertStringsSpec.post enc Tryz.prog Tryz.f5 false true false false) := by
 refine returnsInHanded_of_change_and (C := Tryz.checked) (X := fun w _ => laidMetH Tryz.prog Rows.convertStringsRow.laid w) (fun _ _ _ hh h => h.of_heap hh) own started (by kernel_rfl) Tryz.func5
  (ChangeSpec.witness_shaped (enc := enc) (C := Tryz.checked) (os := os) (X := fun w _ => laidMetH Tryz.prog Rows.convertStringsRow.laid w) false (World.laidAll Tryz.prog os Rows.convertStringsRow.laid) #[.slice none 0 0, .int .i64 0, .int .i64 0] 8 (World.laidAll_os _ _ _)
   (World.shaped_of_ZipB (by kernel_rfl) (by kernel_rfl)) (by kernel_rfl) (by kernel_rfl) (by kernel_rfl)
   (by rw [MakeChecks.laidMetH_plain _ _ _ (by kernel_rfl)]; exact laidMet_laidAll _ (by kernel_rfl) (by kernel_rfl))) ?_
 intro W base args ds gs before hval0 hW _ _ hL _
 have hval : ∀ (j : Nat) t v, Tryz.f5.params[j]? = some t → args[j]? = some v → Value.okWide Tryz.prog W .any base t v := hval0
 have hW' := hW
 obtain ⟨p, q, hA0, hV, rfl, _, _⟩ := hW
 have hA : DataW.TrodAll enc Tryz.prog W 0 (fun _ => true) true Tryz.f5.params.toList args.toList ds p := hA0
 rw [Tryz.params5] at hA hval
 obtain ⟨v0, v1, v2, d0, d1, d2, p0, p1, p2, rfl, rfl, rfl, h0, h1, h2⟩ := trodAll_three hA
 obtain ⟨rfl, rfl⟩ := trodVars_none hV
 obtain ⟨x, rfl, rfl, rfl, _⟩ := open_int Tryz.underlying3 (hval 1 3 v1 rfl rfl) h1
 obtain ⟨y, rfl, rfl, rfl, _⟩ := open_int Tryz.underlying3 (hval 2 3 v2 rfl rfl) h2
 obtain ⟨l, v, L, obs, s1, s2, s3, s4, s5, s6⟩ := Den.Akj (show laidMetH Den.PP Den.Aj6 W from hL) (hval 0 44 v0 rfl rfl) h0
 refine (law s1 s2 s3 s4 s5 s6 x y).mono fun e W' ⟨he, hbw⟩ => ?_
 subst he
 exact ⟨_, rfl, Den.At4 laidOut (by kernel_rfl) rfl Tryz.underlying4 hW' rfl rfl hbw⟩
theorem holds : Rows.ConvertStringsSaid :=
 OpenClaim.holds_of_wide 5 Tryz.f5 rfl rfl rfl rfl rfl rfl rfl ⟨rfl, rfl, rfl, rfl, rfl⟩ rfl rfl rfl rfl rfl kfn Tryz.func5 closed kin kwr
  (fun os started H enc _ => lifted os started H enc)
theorem card_holds : Rows.ConvertStringsCardSaid :=
 Claim7.holds_tied_plain_at .later [] [.data, .data, .data, .data, .sentinel, .sentinel, .listed, .data, .pinned, .pinned] true (true, "5157361bb7081c3e38638691101a97ca0e18c869a36b86cebd350c8c40e65bb3") true holds (fun _ h => by cases h) kwf (fun _ h => by cases h) convertStrings_row_tie rfl ⟨rfl, rfl⟩ kmi rfl
  (fun f fn hf hfn => by
   obtain rfl : f = 5 := Option.some.inj (kna.symm.trans hf) |>.symm
   obtain rfl : fn = Tryz.f5 := (Option.some.inj (Tryz.func5.symm.trans hfn)).symm
   exact ⟨klk, fun j t ht => by
    have hm : t ∈ Tryz.f5.params.toList := by simpa using Array.mem_of_getElem? ht
    have hall : (Tryz.f5.params.toList.all fun u => !Tryz.prog.wantsStandIn u) = true := ksi
    exact (show Tryz.prog.wantsStandIn t = false by simpa using List.all_eq_true.1 hall t hm)⟩)
  kgo
#print axioms card_holds
end Go.Proofs.YtcnmehbkpaoolaaGreatDoor
