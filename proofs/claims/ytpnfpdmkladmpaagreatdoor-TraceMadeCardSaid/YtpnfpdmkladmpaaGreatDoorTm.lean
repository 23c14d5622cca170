/-
  A part of the proof: closed runs, with two calls told ahead.
-/
import Derived.Test.YtpnfpdmkladmpaaGreatDoorTaD
import Derived.Test.YtpnfpdmkladmpaaGreatDoorDenQ
import Derived.KernelRfl
namespace Go.Den
open Go.RowKit
set_option maxRecDepth 100000
noncomputable def obs0 : List (Ob FT) := List.replicate 9 .dead
def locs0 : List Loc := [⟨0, 0, 0⟩, ⟨1, 0, 0⟩, ⟨2, 0, 0⟩, ⟨3, 0, 0⟩, ⟨4, 0, 0⟩, ⟨5, 0, 0⟩, ⟨6, 0, 0⟩, ⟨7, 0, 0⟩, ⟨8, 0, 0⟩]
theorem sim0 (w : World) : Sim (mu0 locs0) (initH obs0) w := sim_init rfl rfl fun i o c h _ => by
  have : o = .dead := by
    have := List.mem_of_getElem? h
    exact List.eq_of_mem_replicate this
  subst this; trivial
theorem globs0 : Globs (mu0 locs0) G := globs_init fun g hg => by
  have hg : g < 9 := hg
  refine ⟨⟨g, 0, 0⟩, ?_, rfl, rfl⟩
  match g, hg with
  | 0, _ | 1, _ | 2, _ | 3, _ | 4, _ | 5, _ | 6, _ | 7, _ | 8, _ => rfl
noncomputable abbrev h0 : H := initH obs0
noncomputable abbrev PP : Program := Proofs.Tryz.prog
noncomputable abbrev W1 : Caller Prop FT := SW PP G
theorem use {F : FuncId} {args : List AV} {r : AV} (hp : Pure PP G h0 F args r) (ha : plains args = true) (hr : plain r = true) {h : H} {k : KV} (hk : k r h) : W1 (.func F) args h k := pure_use sim0 globs0 rfl hp ha hr hk
theorem use2 {F : FuncId} {args : List AV} {r : AV} (hp : Pure PP G h0 F args r) {h : H} {k : KV} (hk : k r h) (ha : plains args = true := by rfl) (hr : plain r = true := by rfl) : W1 (.func F) args h k := use hp ha hr hk
/-- as many ways as maps are gone through in -/
noncomputable def conjN (n : Nat) (A : Prop) : Prop := Nat.rec True (fun m ih => Nat.rec A (fun _ _ => And A ih) m) n
noncomputable def shpN (n : Nat) (A : Prop) : Prop := Nat.rec A (fun m ih => conjN (Nat.succ m) ih) n
noncomputable def shp (l : List Nat) : Prop := List.rec True (fun n _ ih => shpN n ih) l
theorem conjN_i {A : Prop} (h : A) : ∀ n, conjN n A
  | 0 => trivial
  | 1 => h
  | n + 2 => ⟨h, conjN_i h (n + 1)⟩
theorem shpN_i {A : Prop} (h : A) : ∀ n, shpN n A
  | 0 => h
  | n + 1 => conjN_i (shpN_i h n) (n + 1)
theorem shp_i : ∀ l, shp l
  | [] => trivial
  | n :: l => shpN_i (shp_i l) n
theorem sh_run {F : FuncId} {args : List AV} {l : List Nat} {m n : Nat} (h : calls m n (.func F) args h0 isT = shp l) : Pure PP G h0 F args (.bool true) :=
  sw_mono (sw_of (calls_ok m n) (h.mpr (shp_i l))) fun _ _ h => isT_inv h
theorem g11 : calls 1000 100 (.func 11) [] h0 isT = shp [2, 2] := by kernel_rfl
theorem c11 : Pure PP G h0 11 [] (.bool true) := sh_run g11
theorem wrap64 {n : Int} (h1 : -9223372036854775808 ≤ n) (h2 : n ≤ 9223372036854775807) : wrap .i64 n = n := by
  rw [wrap_eq]
  simp [IntKind.wrap, IntKind.bits, IntKind.signed]
  omega
/-! ### Round -/
theorem eqN (n : Nat) : ibeq (Int.ofNat n) (Int.ofNat 0) = decide (n = 0) := by
  rw [ibeq_eq, Bool.eq_iff_iff, beq_iff_eq, decide_eq_true_eq]
  exact ⟨fun h => Int.ofNat.inj h, fun h => by rw [h]⟩
theorem tmod_range (n : Int) {m : Nat} (hm : 0 < m) : -(m : Int) < n.tmod m ∧ n.tmod m < m := by
  constructor
  · have := Int.lt_tmod_of_pos n (show (0 : Int) < m by omega)
    exact this
  · exact Int.tmod_lt_of_pos n (show (0 : Int) < m by omega)
theorem g8_0 {n m : Int} {h : H} {k : KV} (hg : s8_0 W1 k (r8 W1 k 0) n m h) : f8 (r8 W1 k 1) 0 (finit [.int .i64 n, .int .i64 m]) h := hg
theorem c8 (n : Int) {m : Nat} (hm : 0 < m) (hb : m ≤ 1000000) : ∃ r, r < m ∧ Pure PP G h0 8 [.int .i64 n, .int .i64 (Int.ofNat m)] (.int .i64 (Int.ofNat r)) := by
  obtain ⟨h1, h2⟩ := tmod_range n hm
  have h3 : 0 ≤ (n.tmod m + m).tmod m := Int.tmod_nonneg _ (by omega)
  have h4 := (tmod_range (n.tmod m + m) hm).2
  refine ⟨((n.tmod m + m).tmod m).toNat, by omega, ?_⟩
  refine w8 (n := 1) sw_ok (g8_0 ?_)
  unfold s8_0
  have e0 : ibeq (Int.ofNat m) (Int.ofNat 0) = false := by rw [eqN, decide_eq_false (by omega)]
  unfold remI
  rw [e0]
  show fI (n.tmod (m : Int)) _
  rw [fI_eq, iadd_eq, fI_eq]
  have w1 : wrap .i64 (n.tmod (m : Int) + Int.ofNat m) = n.tmod m + m := wrap64 (by show _ ≤ n.tmod (m : Int) + (m : Int); omega) (by show n.tmod (m : Int) + (m : Int) ≤ _; omega)
  rw [w1]
  show fI ((n.tmod m + m).tmod (m : Int)) _
  rw [fI_eq]
  show AV.int _ _ = AV.int _ _
  congr 1
  show _ = ((((n.tmod m + m).tmod m).toNat : Nat) : Int)
  omega
/-! ### The table, with two calls told ahead -/
noncomputable def callsO (A0 : List AV) (R0 : AV) (m : Nat) (n : Nat) : Caller Prop FT := Nat.rec (fun _ _ _ _ => False) (fun _ c fn a h k => Fn.rec
  (fun i => cnd (Nat.beq i 8) (And (a = A0) (k R0 h)) (cnd (Nat.beq i 11) (List.rec (k (.bool true) h) (fun _ _ _ => False) a) (disp c m i a h k)))
  (fun _ => False) (fun _ _ => False) (fun _ _ _ _ => False) (fun l => yieldA env c (okLp PP env G) l a h k) fn) n
theorem callsO_ok {A0 : List AV} {R0 : AV} (hR : ∀ {h : H} {k : KV}, k R0 h → SW PP G (.func 8) A0 h k) (m : Nat) : ∀ n, CallOk PP (CP env) G (fun p => p) (callsO A0 R0 m n)
  | 0 => fun _ _ _ _ _ _ _ _ _ _ _ _ hg => hg.elim
  | n + 1 => fun μ h w fn fn' args vargs k s gl hf hv hg => by
    cases fn with
    | func i =>
      have hg : cnd (Nat.beq i 8) (And (args = A0) (k R0 h)) (cnd (Nat.beq i 11) (List.rec (k (.bool true) h) (fun _ _ _ => False) args) (disp (callsO A0 R0 m n) m i args h k)) := hg
      cases e8 : Nat.beq i 8 with
      | true =>
        rw [e8] at hg
        obtain ⟨ha, hk⟩ := (show And (args = A0) (k R0 h) from hg)
        cases Nat.eq_of_beq_eq_true e8
        subst ha
        exact hR hk μ w fn' vargs s gl hf hv
      | false =>
        rw [e8] at hg
        have hg : cnd (Nat.beq i 11) (List.rec (k (.bool true) h) (fun _ _ _ => False) args) (disp (callsO A0 R0 m n) m i args h k) := hg
        cases e7 : Nat.beq i 11 with
        | true =>
          rw [e7] at hg
          cases Nat.eq_of_beq_eq_true e7
          cases args with
          | nil => exact use2 c11 (show k (.bool true) h from hg) rfl rfl μ w fn' vargs s gl hf hv
          | cons => exact (show False from hg).elim
        | false =>
          rw [e7] at hg
          exact disp_ok (callsO_ok hR m n) (show disp (callsO A0 R0 m n) m i args h k from hg) μ w fn' vargs s gl hf hv
    | yield l => exact yield_ok mixed envOk (callsO_ok hR m n) (show yieldA env (callsO A0 R0 m n) (okLp PP env G) l args h k from hg) μ w fn' vargs s gl hf hv
    | _ => exact hg.elim
end Go.Den
