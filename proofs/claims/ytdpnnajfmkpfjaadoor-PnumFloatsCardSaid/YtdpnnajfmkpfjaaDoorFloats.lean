/-
  What is proved: whatever the arguments, the law PnumFloats answers true and leaves its arguments as they were. Conditions: those of the given row and card, no other.
-/
import Derived.Test.YtdpnnajfmkpfjaaDoorFlts
import Derived.Test.YtdpnnajfmkpfjaaDoorRows
import Derived.Test.YtdpnnajfmkpfjaaDoorCards
import Derived.Test.YtdpnnajfmkpfjaaDoorTie
import Derived.ProofKit
import Derived.WalkKit
import Derived.Lay
import Derived.MakeChecks
import Derived.SevenTiedAt
import Derived.SizedLaws
import Derived.ChangeMaps5
namespace Go.Proofs.YtdpnnajfmkpfjaaDoor
open Go.ChangeShapes Go.WideShapes Go.ChangeAt Go.RowKit
open Go.Den (S)
open Go.ChangeMaps (open_string shut_string)
theorem own : ownKnob Tryd.prog.godebug = none := by kernel_rfl
theorem laidOut : laidOutB Tryd.prog = true := by kernel_rfl
theorem law (a b c : ByteArray) (n : Int) (ha : a.size ≤ reachBytes) (hb : b.size ≤ reachBytes) (hc : c.size ≤ reachBytes) (w : World) :
    Calls Tryd.prog 6 #[.string a, .string b, .string c, .int .i64 n] w fun e w' => e = .returned (.bool true) ∧ Below w.heap.size w w' := by
  have la : a.data.toList.length ≤ 1152921504606846976 := Nat.le_trans ha (by decide)
  have lb : b.data.toList.length ≤ 1152921504606846976 := Nat.le_trans hb (by decide)
  have lc : c.data.toList.length ≤ 1152921504606846976 := Nat.le_trans hc (by decide)
  exact Den.calls_true (E := Den.env) Den.sw_ok (Den.sim0 w) Den.globs0 (Den.own_init rfl) Tryd.func6 rfl (by kernel_rfl)
    (args := [S a.data.toList, S b.data.toList, S c.data.toList, .int .i64 n])
    (show Den.VRs _ _ [Value.string a, .string b, .string c, .int .i64 n] from ⟨_, _, rfl, ⟨a, rfl, rfl, rfl⟩, _, _, rfl, ⟨b, rfl, rfl, rfl⟩, _, _, rfl, ⟨c, rfl, rfl, rfl⟩, _, _, rfl, rfl, rfl⟩)
    (Den.sw_mono (Den.c6 a.data.toList b.data.toList c.data.toList n la lb lc) fun v h e => by rw [e]; trivial)
set_option maxRecDepth 100000 in
theorem lifted (os : Os) (started : os.Started) (H : Type) (enc : TypeId × Value → H) :
    ReturnsInHanded {} Tryd.checked os 6 .any (fun w args => (Rows.pnumFloatsSpec.pre enc Tryd.prog Tryd.f6 [] false w args ∧ laidMetH Tryd.prog Rows.pnumFloatsRow.laid w) ∧ sizedMet enc Tryd.prog Tryd.f6 (OpenSpec.ofChange Rows.pnumFloatsSpec) false w args)
      (Rows.pnumFloatsSpec.post enc Tryd.prog Tryd.f6 false true false false) := by
  refine returnsInHanded_of_change_and (C := Tryd.checked) (X := fun w _ => laidMetH Tryd.prog Rows.pnumFloatsRow.laid w) (fun _ _ _ hh h => h.of_heap hh) own started (by kernel_rfl) Tryd.func6
    (ChangeSpec.witness_shaped (enc := enc) (C := Tryd.checked) (os := os) (X := fun w _ => laidMetH Tryd.prog Rows.pnumFloatsRow.laid w) false (World.laidAll Tryd.prog os Rows.pnumFloatsRow.laid) #[.string ⟨#[]⟩, .string ⟨#[]⟩, .string ⟨#[]⟩, .int .i64 0] 8 (World.laidAll_os _ _ _)
      (World.shaped_of_ZipB (by kernel_rfl) (by kernel_rfl)) (by kernel_rfl) (by kernel_rfl) (by kernel_rfl)
      (by rw [MakeChecks.laidMetH_plain _ _ _ (by kernel_rfl)]; exact laidMet_laidAll _ (by kernel_rfl) (by kernel_rfl))) ?_
  intro W base args ds gs before hval0 hW _ hsz0 _ _
  have hval : ∀ (j : Nat) t v, Tryd.f6.params[j]? = some t → args[j]? = some v → Value.okWide Tryd.prog W .any base t v := hval0
  have hW' := hW
  obtain ⟨p, q, hA0, hV, rfl, _, _⟩ := hW
  have hA : DataW.TrodAll enc Tryd.prog W 0 (fun _ => true) true Tryd.f6.params.toList args.toList ds p := hA0
  rw [Tryd.params6] at hA hval
  obtain ⟨v0, v1, v2, v3, d0, d1, d2, d3, p0, p1, p2, p3, rfl, rfl, rfl, h0, h1, h2, h3⟩ := trodAll_four hA
  obtain ⟨rfl, rfl⟩ := trodVars_none hV
  obtain ⟨a, rfl, rfl, rfl, wa⟩ := open_string Tryd.underlying9 (hval 0 9 v0 rfl rfl) h0
  obtain ⟨b, rfl, rfl, rfl, wb⟩ := open_string Tryd.underlying9 (hval 1 9 v1 rfl rfl) h1
  obtain ⟨c, rfl, rfl, rfl, wc⟩ := open_string Tryd.underlying9 (hval 2 9 v2 rfl rfl) h2
  obtain ⟨n, rfl, rfl, rfl, wn⟩ := open_int Tryd.underlying3 (hval 3 3 v3 rfl rfl) h3
  have hsz : (DataW.weightsEach Tryd.prog (Tryd.f6.params.toList ++ Rows.pnumFloatsSpec.plain.varTypes Tryd.prog) ([.lit (.string a.data.toList), .lit (.string b.data.toList), .lit (.string c.data.toList), .lit (.int .i64 n)] ++ [])).all (· ≤ reachBytes) = true := hsz0
  rw [Tryd.params6] at hsz
  have sa : a.size ≤ reachBytes := sized_string hsz (j := 0) rfl rfl
  have sb : b.size ≤ reachBytes := sized_string hsz (j := 1) rfl rfl
  have sc : c.size ≤ reachBytes := sized_string hsz (j := 2) rfl rfl
  refine (law a b c n sa sb sc W).mono fun e W' ⟨he, hbw⟩ => ?_
  subst he
  exact ⟨_, rfl, Den.law_post laidOut (by kernel_rfl) rfl Tryd.underlying4 hW' rfl rfl hbw⟩
theorem holds : Rows.PnumFloatsSaid :=
  OpenClaim.holds_of_wide 6 Tryd.f6 rfl rfl rfl rfl rfl rfl rfl ⟨rfl, rfl, rfl, rfl, rfl⟩ rfl rfl rfl rfl rfl (by kernel_rfl) Tryd.func6 (by kernel_rfl)
    (of_decide_eq_true (by kernel_rfl)) (by unfold Func.isWrapper; first | (rw [if_pos (by decide +kernel)]; kernel_rfl) | (rw [if_neg (by decide +kernel)]; exact ⟨rfl, rfl⟩))
    (fun os started H enc _ => lifted os started H enc)
theorem card_holds : Rows.PnumFloatsCardSaid :=
  Claim7.holds_tied_plain_at .later [] [.data, .data, .data, .data, .sentinel, .sentinel, .pinned, .pinned] true (true, "758dfb91ee8c83c7e832b2cf1c02b75187dac30176bd36b4c4625112d6e30088") true holds (fun _ h => by cases h) (by kernel_rfl) (fun _ h => by cases h) pnumFloats_row_tie rfl ⟨rfl, rfl⟩ (by kernel_rfl) rfl
    (fun f fn hf hfn => by
      obtain rfl : f = 6 := Option.some.inj ((show Tryd.prog.funcNamed "oxbow/oxbowlaw13.PnumFloats" = some 6 by kernel_rfl).symm.trans hf) |>.symm
      obtain rfl : fn = Tryd.f6 := (Option.some.inj (Tryd.func6.symm.trans hfn)).symm
      exact ⟨by kernel_rfl, fun j t ht => by
        have hm : t ∈ Tryd.f6.params.toList := by simpa using Array.mem_of_getElem? ht
        have hall : (Tryd.f6.params.toList.all fun u => !Tryd.prog.wantsStandIn u) = true := by kernel_rfl
        exact (show Tryd.prog.wantsStandIn t = false by simpa using List.all_eq_true.1 hall t hm)⟩)
    (by kernel_rfl)
#print axioms card_holds
end Go.Proofs.YtdpnnajfmkpfjaaDoor
