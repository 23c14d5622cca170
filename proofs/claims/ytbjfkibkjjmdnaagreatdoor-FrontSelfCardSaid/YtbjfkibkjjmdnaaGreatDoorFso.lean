/-
  A part of the proof: the table of calls of FrontSelf's runs is the program's; what the runs come to holds.
-/
import Derived.Test.YtbjfkibkjjmdnaaGreatDoorBas
import Derived.Test.YtbjfkibkjjmdnaaGreatDoorPrs
import Derived.Test.YtbjfkibkjjmdnaaGreatDoorFsd
import Derived.KernelRfl
namespace Go.Den
open Go.RowKit
set_option maxRecDepth 100000
/-- a call that sees nothing of the memory, and leaves lines -/
theorem tellP_ok {F : FuncId} {args : List AV} (ha : plains args = true) {D : List LnD} {st : List AV} {m n : Nat} (hrun : calls m n (.func F) args h0 (chkP D st) = True) (hD : allB (fun x => band (allB (fun y => band (plain y) y.one) x.1) (Nat.ble 1 (len x.1))) D = true) (hst : allB (fun y => band (plain y) y.one) st = true)
    {h : H} {k : KV} (hg : tellP D st h k) : W1 (.func F) args h k := fun μ w fn' vargs s gl hf hv => by
  have hD := allB_iff.1 hD
  have hst := allB_iff.1 hst
  have key : ∀ v w' μ' av h', Sim μ' h' w' → Ext' (mu0 locs0) h0 w μ' h' w' → VR μ' av v → chkP D st av h' → ∃ μ2 av2 h2, Sim μ2 h2 w' ∧ Ext' μ h w μ2 h2 w' ∧ VR μ2 av2 v ∧ k av2 h2 := fun v w' μ' av h' s' x' hav hc => by
    unfold chkP at hc
    cases e : chkB D st av h' with
    | false => rw [e] at hc; exact hc.elim
    | true =>
      unfold chkB at e
      split at e
      · rename_i pl o n' sz tg ps o2 n2 sz2 tg2
        split at e
        · rename_i t M z et wl hat
          obtain ⟨a1, a2⟩ := band_inv e
          obtain ⟨b1, b2⟩ := band_inv a1
          obtain ⟨c1, c2⟩ := band_inv b1
          obtain ⟨c3, c4⟩ := band_inv c2
          obtain ⟨c5, c6⟩ := band_inv c4
          obtain ⟨d1, d2⟩ := band_inv b2
          obtain ⟨d3, d4⟩ := band_inv d2
          obtain ⟨d5, d6⟩ := band_inv d4
          obtain ⟨f1, f2⟩ := band_inv a2
          obtain ⟨f3, f4⟩ := band_inv f1
          obtain ⟨f5, f6⟩ := band_inv f4
          obtain ⟨g1, g2⟩ := band_inv f2
          obtain ⟨g3, g4⟩ := band_inv g2
          obtain rfl := Nat.eq_of_beq_eq_true c1
          obtain rfl := Nat.eq_of_beq_eq_true c3
          obtain rfl := Nat.eq_of_beq_eq_true c5
          obtain rfl := Nat.eq_of_beq_eq_true d1
          obtain rfl := Nat.eq_of_beq_eq_true d3
          obtain rfl := Nat.eq_of_beq_eq_true d5
          obtain rfl := Nat.eq_of_beq_eq_true f3
          obtain rfl := Nat.eq_of_beq_eq_true f5
          have t1 : tg = false := by cases tg with | true => cases c6 | false => rfl
          have t2 : tg2 = false := by cases tg2 with | true => cases d6 | false => rfl
          subst t1; subst t2
          obtain ⟨tS, MS, wS, r1, r2, r3⟩ := rowB_i g3
          have hne : ps ≠ pl := awayB_i g4 ps (by simp)
          have hM := Nat.le_of_ble_eq_true f6
          rw [len_eq] at hM hav
          rw [len_eq] at hav
          have hM : D.length * 4 ≤ M := hM
          have bw := below_of_ext x' (own_init rfl)
          have hW : ∀ q lq, (h'.at q).own = true → μ' q = some lq → w.heap.size ≤ lq.blk := fun q lq ho hl => by
            rcases Nat.lt_or_ge lq.blk w.heap.size with hlt | hge
            · obtain ⟨c, l, hc, _⟩ := x'.own _ hlt ⟨q, lq, ho, hl, rfl⟩
              rw [own_init (l := obs0) rfl c] at hc; cases hc
            · exact hge
          refine tellR_ok (μ0 := μ) (h0 := h) (w0 := w) s' hW hat r1 r2 r3 (fun y hy => (band_inv (hst y hy)).1) (fun y hy => (band_inv (hst y hy)).2) hne hav D [] [] μ h (fun hm => (List.not_mem_nil hm).elim) (fun hm => (List.not_mem_nil hm).elim) (by simp; omega)
            (fun x hx y hy => band_inv (allB_iff.1 (band_inv (hD x hx)).1 y hy)) (fun x hx => by have := Nat.le_of_ble_eq_true (band_inv (hD x hx)).2; rw [len_eq] at this; exact this) (lnB_i g1)
            ⟨s.below bw, .below bw, fun c q hc hq => .inl ((s.ob c q hc hq).lt hc), fun j hj => absurd hj (Nat.not_lt_zero _), fun x hx => (List.not_mem_nil hx).elim⟩ (by unfold tellP at hg; rw [len_eq] at hg; exact hg)
        · cases e
      · cases e
  have hsw : SW PP G (.func F) args h0 (chkP D st) := sw_of (calls_ok m n) (hrun.mpr trivial)
  rcases hsw (mu0 locs0) w fn' vargs (sim0 w) globs0 (show FnR (mu0 locs0) (.func F) fn' by cases fn' <;> exact hf) (VRs.plain _ _ ha hv) with ⟨f, e, hh⟩ | ⟨l, F', tmps, a1, bd, e, _⟩
  case inr => subst e; exact hf.elim
  refine .inl ⟨f, e, ?_⟩
  rcases hh with ⟨v, w', μ', av, h', h1, h2, h3, h4, h5⟩ | ⟨h1, h2⟩
  · obtain ⟨μ2, av2, h2', a, b, c, d⟩ := key v w' μ' av h' h2 h3 h4 h5
    exact .inl ⟨v, w', μ2, av2, h2', h1, a, b, c, d⟩
  · refine .inr ⟨h1, h2.mono fun e w' he => ?_⟩
    obtain ⟨v, μ', av, h', h3, h4, h5, h6, h7⟩ := he
    obtain ⟨μ2, av2, h2', a, b, c, d⟩ := key v w' μ' av h' h4 h5 h6 h7
    exact ⟨v, μ2, av2, h2', h3, a, b, c, d⟩
/-! ### A config that may be -/
theorem ck_run (n f : Int) : calls 100 100 (.func 29) [.agg [.nils, .int .i64 n, .int .i64 f]] h0 (fun v _ => v = .bool true) =
    Bool.rec (AV.bool false = AV.bool true) (Bool.rec (AV.bool false = AV.bool true) (Bool.rec (AV.bool false = AV.bool true) (AV.bool (ible f (Int.ofNat 200000)) = AV.bool true) (ible (Int.ofNat 0) f)) (ible n (Int.ofNat 100))) (ible (Int.ofNat 1) n) := by kernel_rfl
theorem cCk {n f : Int} (h1 : 1 ≤ n) (h2 : n ≤ 100) (h3 : 0 ≤ f) (h4 : f ≤ 200000) : Pure PP G h0 29 [.agg [.nils, .int .i64 n, .int .i64 f]] (.bool true) := by
  refine sw_of (calls_ok 100 100) ((ck_run n f).mpr ?_)
  have e1 : ible (Int.ofNat 1) n = true := by rw [ible_eq]; exact decide_eq_true h1
  have e2 : ible n (Int.ofNat 100) = true := by rw [ible_eq]; exact decide_eq_true h2
  have e3 : ible (Int.ofNat 0) f = true := by rw [ible_eq]; exact decide_eq_true h3
  have e4 : ible f (Int.ofNat 200000) = true := by rw [ible_eq]; exact decide_eq_true h4
  rw [e1, e2, e3, e4]
theorem ckT_ok {a : List AV} {h : H} {k : KV} (hg : ckT a h k) : W1 (.func 29) a h k := by
  unfold ckT at hg
  split at hg
  · obtain ⟨⟨⟨h1, h2⟩, h3, h4⟩, hk⟩ := hg
    exact use2 (cCk h1 h2 h3 h4) hk
  · exact hg.elim
/-- a file's lines may be told -/
def FilOk (A : Fil) : Prop := ∀ {h : H} {k : KV}, tellP A.D A.st h k → W1 (.func 25) [.str A.lp A.cp, .str A.lt A.ct] h k
theorem fil_ok {A : Fil} (hr : LinesF A) (hD : allB (fun x => band (allB (fun y => band (plain y) y.one) x.1) (Nat.ble 1 (len x.1))) A.D = true) (hst : allB (fun y => band (plain y) y.one) A.st = true) : FilOk A := fun hg => tellP_ok rfl hr hD hst hg
theorem filT_ok {A : Fil} (hA : FilOk A) {a : List AV} {h : H} {k : KV} {els : Prop} (he : els → W1 (.func 25) a h k) (hg : filT A a h k els) : W1 (.func 25) a h k := by
  unfold filT at hg
  split at hg
  · rename_i l c m d
    cases e : band (strEq l c A.lp A.cp) (strEq m d A.lt A.ct) with
    | false => rw [e] at hg; exact he hg
    | true =>
      rw [e] at hg
      obtain ⟨e1, e2⟩ := band_inv e
      obtain ⟨a1, a2⟩ := band_inv (show band (Nat.beq l A.lp) (Nat.beq c A.cp) = true from e1)
      obtain ⟨a3, a4⟩ := band_inv (show band (Nat.beq m A.lt) (Nat.beq d A.ct) = true from e2)
      rw [Nat.eq_of_beq_eq_true a1, Nat.eq_of_beq_eq_true a2, Nat.eq_of_beq_eq_true a3, Nat.eq_of_beq_eq_true a4]
      exact hA hg
  · exact hg.elim
theorem callsF_ok {A B : Fil} (hA : FilOk A) (hB : FilOk B) (hw : ∀ {h : H} {k : KV}, k (.bool true) h → SW PP G (.func 13) [] h k) (m : Nat) : ∀ n, CallOk PP (CP env) G (fun p => p) (callsF A B m n)
  | 0 => fun _ _ _ _ _ _ _ _ _ _ _ _ hg => hg.elim
  | n + 1 => fun μ h w fn fn' args vargs k s gl hf hv hg => by
    cases fn with
    | func i =>
      have hg : cnd (Nat.beq i 29) (ckT args h k) (cnd (Nat.beq i 25) (filT A args h k (filT B args h k False)) (cnd (Nat.beq i 13) (List.rec (k (.bool true) h) (fun _ _ _ => False) args) (disp (callsF A B m n) m i args h k))) := hg
      cases e1 : Nat.beq i 29 with
      | true =>
        rw [e1] at hg
        cases Nat.eq_of_beq_eq_true e1
        exact ckT_ok hg μ w fn' vargs s gl hf hv
      | false =>
      rw [e1] at hg
      have hg : cnd (Nat.beq i 25) (filT A args h k (filT B args h k False)) (cnd (Nat.beq i 13) (List.rec (k (.bool true) h) (fun _ _ _ => False) args) (disp (callsF A B m n) m i args h k)) := hg
      cases e2 : Nat.beq i 25 with
      | true =>
        rw [e2] at hg
        cases Nat.eq_of_beq_eq_true e2
        exact filT_ok hA (fun hg => filT_ok hB (fun hg => hg.elim) hg) hg μ w fn' vargs s gl hf hv
      | false =>
      rw [e2] at hg
      have hg : cnd (Nat.beq i 13) (List.rec (k (.bool true) h) (fun _ _ _ => False) args) (disp (callsF A B m n) m i args h k) := hg
      cases e3 : Nat.beq i 13 with
      | true =>
        rw [e3] at hg
        cases Nat.eq_of_beq_eq_true e3
        cases args with
        | nil => exact hw (show k (.bool true) h from hg) μ w fn' vargs s gl hf hv
        | cons => exact (show False from hg).elim
      | false =>
        rw [e3] at hg
        exact disp_ok (callsF_ok hA hB hw m n) (show disp (callsF A B m n) m i args h k from hg) μ w fn' vargs s gl hf hv
    | yield l => exact yield_ok mixed envOk (callsF_ok hA hB hw m n) (show yieldA env (callsF A B m n) (okLp PP env G) l args h k from hg) μ w fn' vargs s gl hf hv
    | _ => exact hg.elim
/-! ### What the runs come to holds -/
theorem iblt_f {a b : Int} (h : b ≤ a) : iblt a b = false := by rw [iblt_eq]; exact decide_eq_false (by omega)
theorem isT_t : isT (.bool true) h0 := trivial
theorem wrapW {n : Int} (h1 : -9223372036854775808 ≤ n) (h2 : n ≤ 9223372036854775807) : wrap .i64 n = n := by
  rw [wrap_eq]
  simp [IntKind.wrap, IntKind.bits, IntKind.signed]
  omega
theorem finD_ok {l k : Nat} (hl : l ≤ 5) (hk : k ≤ 100) : finD l k true (Int.ofNat k) := by
  have e : (Int.ofNat k * Int.ofNat l : Int) = Int.ofNat (Nat.mul k l) := rfl
  have h5 : Nat.mul k l ≤ 500 := Nat.mul_le_mul hk hl
  unfold finD
  rw [e, wrapW (by show _ ≤ ((Nat.mul k l : Nat) : Int); omega) (by show ((Nat.mul k l : Nat) : Int) ≤ _; omega), fI_eq]
  have : ibeq (Int.ofNat (Nat.mul k l)) (Int.ofNat (Nat.mul k l)) = true := by rw [ibeq_eq]; exact beq_self_eq_true _
  rw [this]
  exact isT_t
theorem tailD_ok {l k : Nat} (hl : l ≤ 5) (hk : k ≤ 100) (p : Bool) : tailD l p k (Int.ofNat k) := by
  cases p with
  | false => exact finD_ok hl hk
  | true =>
    show fI (Int.tmod (Int.ofNat k) (Int.ofNat 2)) (fun n => Bool.rec (finD l k (oddB k) (Int.ofNat k)) (finD l k (bnot (oddB k)) (Int.ofNat k)) (ibeq n (Int.ofNat 0)))
    have e : Int.tmod (Int.ofNat k) (Int.ofNat 2) = Int.ofNat (k % 2) := rfl
    rw [e, fI_eq]
    have e2 : ibeq (Int.ofNat (k % 2)) (Int.ofNat 0) = bnot (oddB k) := by
      rw [ibeq_eq]
      unfold oddB
      rw [show Nat.mod k 2 = k % 2 from rfl]
      rcases (show k % 2 = 0 ∨ k % 2 = 1 by omega) with h | h <;> rw [h] <;> rfl
    rw [e2]
    cases ho : oddB k with
    | true => exact finD_ok hl hk
    | false => exact finD_ok hl hk
theorem twiceD_ok {l k : Nat} (hl : l ≤ 5) (hk : k ≤ 100) (p : Bool) : twiceD l p k (Int.ofNat k) := by
  have t := tailD_ok hl hk p
  cases p with
  | false => exact t
  | true =>
    show (Bool.rec (tailD l true k (Int.ofNat k)) (And (tailD l true k (Int.ofNat k)) (tailD l true k (Int.ofNat k))) (Nat.ble 2 k) : Prop)
    cases Nat.ble 2 k with
    | false => exact t
    | true => exact ⟨t, t⟩
theorem chainD_ok {l : Nat} (hl : l ≤ 5) (p : Bool) {m : Nat} (hm : m ≤ 100) : ∀ (j k : Nat), k ≤ m → m < k + j → chainD l p (Int.ofNat m) j k
  | 0, k, h1, h2 => by omega
  | j + 1, k, h1, h2 => by
    show (Bool.rec (chainD l p (Int.ofNat m) j (Nat.succ k)) (twiceD l p k (Int.ofNat m)) (ible (Int.ofNat m) (Int.ofNat k)) : Prop)
    by_cases e : m = k
    · subst e
      have : ible (Int.ofNat m) (Int.ofNat m) = true := by rw [ible_eq]; exact decide_eq_true (Int.le_refl _)
      rw [this]
      exact twiceD_ok hl hm p
    · have : ible (Int.ofNat m) (Int.ofNat k) = false := by
        rw [ible_eq]; exact decide_eq_false (fun h => by have h : (m : Int) ≤ (k : Int) := h; omega)
      rw [this]
      exact chainD_ok hl p hm j (k + 1) (by omega) (by omega)
theorem avEq_cfg (d : Int) : avEq 4 (.agg [.nils, .int .i64 d, .int .i64 (Int.ofNat 5000)]) (.agg [.nils, .int .i64 d, .int .i64 (Int.ofNat 5000)]) = true := by
  have e : ibeq d d = true := by rw [ibeq_eq]; exact beq_self_eq_true _
  show band true (band (ibeq d d) (band true true)) = true
  rw [e]; rfl
theorem cfgD_ok {d : Int} {X : Prop} (h : X) : cfgD d X := by
  unfold cfgD
  rw [avEq_cfg]
  exact h
theorem run_ok {A B : Fil} {l : Nat} {p : Bool} {n : Nat} (hr : RunF A B l p 0 100 n) (hl : l ≤ 5) {m : Nat} (h1 : 1 ≤ m) (h2 : m ≤ 100) : callsF A B 5000 n (.func 4) [.int .i64 (Int.ofNat m), .int .i64 (Int.ofNat l), .bool p] h0 isT := by
  obtain ⟨e, rfl⟩ : ∃ e, m = Nat.add e (Nat.succ 0) := ⟨m - 1, by show m = m - 1 + 1; omega⟩
  refine (hr e).mpr ?_
  rw [iblt_f (show (Int.ofNat (Nat.add e (Nat.succ 0)) : Int) ≤ Int.ofNat 100 by exact Int.ofNat_le.2 h2)]
  refine ⟨⟨⟨?_, ?_⟩, by decide, by decide⟩, cfgD_ok (cfgD_ok (cfgD_ok (cfgD_ok (chainD_ok hl p h2 100 1 h1 (by omega)))))⟩
  · exact Int.ofNat_le.2 h1
  · exact Int.ofNat_le.2 h2
/-- outside of what is looked at -/
theorem out_run (d l : Int) (p : Bool) : callsA 13 1 3 (.func 4) [.int .i64 d, .int .i64 l, .bool p] h0 isT =
    Bool.rec (Bool.rec (Bool.rec (Bool.rec False TT (iblt (Int.ofNat 5) l)) TT (iblt l (Int.ofNat 0))) TT (iblt (Int.ofNat 100) d)) TT (iblt d (Int.ofNat 1)) := by kernel_rfl
theorem out_ok {d l : Int} {p : Bool} (h : d < 1 ∨ 100 < d ∨ l < 0 ∨ 5 < l) : callsA 13 1 3 (.func 4) [.int .i64 d, .int .i64 l, .bool p] h0 isT := by
  refine (out_run d l p).mpr ?_
  have key : ∀ a b : Int, iblt a b = decide (a < b) := fun a b => iblt_eq a b
  rw [key, key, key, key]
  by_cases h1 : d < Int.ofNat 1
  · rw [decide_eq_true h1]; exact isT_t
  · rw [decide_eq_false h1]
    by_cases h2 : Int.ofNat 100 < d
    · rw [decide_eq_true h2]; exact isT_t
    · rw [decide_eq_false h2]
      by_cases h3 : l < Int.ofNat 0
      · rw [decide_eq_true h3]; exact isT_t
      · rw [decide_eq_false h3]
        by_cases h4 : Int.ofNat 5 < l
        · rw [decide_eq_true h4]; exact isT_t
        · exfalso
          have h1 : ¬ d < 1 := h1
          have h2 : ¬ (100 : Int) < d := h2
          have h3 : ¬ l < 0 := h3
          have h4 : ¬ (5 : Int) < l := h4
          omega
end Go.Den
