/-
  A part of the proof.
-/
import Derived.Test.YtdpnnajfmkpfjaaGreatDoorLex9
import Derived.Lib.MakeNoZero
namespace Go.Den
open Go.RowKit
set_option maxRecDepth 100000
/-! ### Builder.Grow -/
theorem c95 {n : Nat} (hn : n ≤ 1099511627776) {h : H} {k : KV} (hk : k (.slice h.next 0 n 1 false) (h.new (.row .e 0 0 TB false))) : W1 (.func 95) [.int .i64 (Int.ofNat n)] h k := by
  intro μ w fn' vargs s gl hfn hv
  have hfn' : fn' = .func 95 := by cases fn' <;> simp only [FnR] at hfn <;> first | (cases hfn; rfl) | cases hfn
  obtain ⟨v, vs, e, h1, h2⟩ := hv
  have h2 : vs = [] := h2
  have h1 : v = .int .i64 (Int.ofNat n) := h1
  subst h2 h1
  have hva : vargs = #[.int .i64 (Int.ofNat n)] := by apply Array.ext'; simpa using e
  subst hva
  obtain ⟨cs, hr, hle, _⟩ := Lib.run_makeNoZero (P := PP) w #[3] 37 TB Proofs.Tryz.underlying37 n (by omega)
  have hrun : (callFunc 95 #[.int .i64 (Int.ofNat n)]).run PP w = .ok (.value (.slice (some ⟨w.heap.size, 0, none⟩) n cs.size)) (w.drew.drew.alloc (.cells cs TB)) := by
    rw [run_callFunc_extern (e := Extern.BytealgMakeNoZero.makeNoZero #[3] #[37]) Proofs.Tryz.func95 (by kernel_rfl) (by kernel_rfl) (by kernel_rfl) (by kernel_rfl)]
    rw [show (Extern.BytealgMakeNoZero.makeNoZero #[3] #[37] #[.int .i64 (Int.ofNat n)]).run PP w = _ from hr]
    rfl
  obtain ⟨s1, x1⟩ := Sim.alloc (s.heap (w' := w.drew.drew) rfl) (.row .e 0 0 TB false) (.cells cs TB) cs.size 0 (fun μ' _ => by
    refine ⟨_, _, alloc_new w.drew.drew _, ⟨rfl, by show 0 + 0 ≤ cs.size; omega, fun j hj => absurd hj (Nat.not_lt_zero _)⟩, (fun e => nomatch e), fun _ i _ hi => ?_⟩
    intro hh
    omega)
  refine ⟨95, hfn', .inl ⟨_, _, _, _, _, hrun, s1, (Ext'.heap μ h (w := w) (w' := w.drew.drew) rfl rfl rfl rfl).trans x1, ?_, hk⟩⟩
  refine ⟨_, _, rfl, hle, (fun e => nomatch e), .inr ⟨_, Mu.set_same _ _ _, rfl, ?_⟩⟩
  show 0 + 0 + cs.size * 1 ≤ cs.size
  omega
theorem cap37 (x : AV) (h : H) : builtinA env .cap [37] [x] h = capV x h := by kernel_rfl
theorem cp37 (x y : AV) (h : H) : builtinA env .copy [37, 37] [x, y] h = exCopy x y h TB ei8 := by kernel_rfl
theorem sl37 (b : P) (n : Nat) (h : H) : slice3 env h 37 (.slice b 0 n 1 false) none (some (natOf (.int .i64 (Int.ofNat 0)))) none = withH h (cutRow b 0 n 1 false 0 0 none) := by kernel_rfl
theorem c87 {h : H} {b : P} {t : Tm} {n : Nat} {k : KV} (ha : h.at b = .row t 2 0 39 true) (hb : b.nat < h.next.nat) (h0 : tget t 0 = .ptr b 0) (h1 : tget t 1 = .nils) (hn : n ≤ 1099511627776) (hk : ∀ h', Bld true h' b [] → k (.tuple []) h') : W1 (.func 87) [.ptr b 0, .int .i64 (Int.ofNat n)] h k := by
  refine w87 (n := 1) sw_ok (g87 ?_)
  unfold s87_0
  rw [exNil_p, oK_some, fAddr_1]
  refine ld1_i ha (by decide) ?_
  rw [h1, cap37, show (capV AV.nils h : Option (AV × H)) = some (.int .i64 (Int.ofNat 0), h) from rfl, oK_some, asI_k, fI_eq, fI_eq]
  have e1 : wrap .i64 (iadd (wrap .i64 (Int.ofNat 2 * Int.ofNat 0)) (Int.ofNat n)) = Int.ofNat n := by
    rw [show wrap .i64 (Int.ofNat 2 * Int.ofNat 0) = Int.ofNat 0 by kernel_rfl, iadd_eq, show Int.ofNat 0 + Int.ofNat n = Int.ofNat n by show (0 : Int) + (n : Int) = (n : Int); omega]
    exact wrapN (by omega)
  rw [e1, exNil_p, oK_some, fAddr_1]
  refine ld1_i ha (by decide) ?_
  rw [h1]
  refine c95 hn ?_
  have ha1 : (h.new (.row .e 0 0 TB false)).at b = .row t 2 0 39 true := by rw [at_new_o hb]; exact ha
  refine ld1_i ha1 (by decide) ?_
  rw [h1, eqC_nils, sl37]
  have e2 : (withH (h.new (.row .e 0 0 TB false)) (cutRow h.next 0 n 1 false 0 0 none) : Option (AV × H)) = some (.slice h.next 0 0 1 false, h.new (.row .e 0 0 TB false)) := by
    cases n <;> rfl
  rw [e2, oK_some, exNil_p, oK_some, fAddr_1]
  refine ld1_i ha1 (by decide) ?_
  rw [h1, cp37]
  have e3 : ∃ h3, (exCopy (.slice h.next 0 0 1 false) .nils (h.new (.row .e 0 0 TB false)) TB ei8 : Option (AV × H)) = some (.int .i64 (Int.ofNat 0), h3) ∧ h3 = (h.new (.row .e 0 0 TB false)).put h.next (.row .e 0 0 TB false) := by
    refine ⟨_, ?_, rfl⟩
    show (intH 0 ((h.new (.row .e 0 0 TB false)).write h.next 0 []) : Option (AV × H)) = _
    have : (h.new (.row .e 0 0 TB false)).write h.next 0 [] = some ((h.new (.row .e 0 0 TB false)).put h.next (.row .e 0 0 TB false)) := by
      unfold Hp.write Hp.writeK
      rw [at_new_same]
      show (h.new (.row .e 0 0 TB false)).putK h.next (.row .e 0 0 TB false) some = _
      rw [putK_eq]
    rw [this]; rfl
  obtain ⟨h3, e3, e4⟩ := e3
  rw [e3, oK_some, asI_k, exNil_p, oK_some, fAddr_1]
  have hbn : b ≠ h.next := fun e => by subst e; exact absurd hb (Nat.lt_irrefl _)
  have a3 : h3.at b = .row t 2 0 39 true := by rw [e4, at_put_o hbn]; exact ha1
  have n3 : h3.next.nat = h.next.nat + 1 := by rw [e4]; exact next_new (o := .row .e 0 0 TB false)
  refine Bld.fin (g := true) (l := []) a3 (by omega) h0 (.inr ⟨h.next, .e, 0, 0, false, rfl, by omega, by rw [e4, at_put_same], Nat.le_refl _, Nat.le_refl _, fun i hi => absurd hi (Nat.not_lt_zero _), .inl rfl⟩) fun h' hb' => hk h' hb'
theorem c74 {h : H} {n : Nat} {k : KV} (hn1 : 1 ≤ n) (hn : n ≤ 1099511627776) (hk : ∀ h', Bld true h' h.next [] → k (.tuple []) h') : W1 (.func 74) [.ptr h.next 0, .int .i64 (Int.ofNat n)] (h.new ob39) k := by
  refine w74 (n := 2) sw_ok (g74 ?_)
  unfold s74_0
  refine c24 (t := tlist [.nilp, .nils] 0 .e) (at_new_same _ _) (.inl (by kernel_rfl)) fun h1 t1 a1 p1 q1 n1 f1 => ?_
  have q1 : tget t1 1 = .nils := q1
  refine cnd_f (by rw [iblt_eq]; exact decide_eq_false (by show ¬ ((n : Int) < ((0 : Nat) : Int)); omega)) ?_
  refine j74_1 ?_
  unfold s74_1
  rw [exNil_p, oK_some, fAddr_1]
  refine ld1_i a1 (by decide) ?_
  rw [q1, cap37, show (capV AV.nils h1 : Option (AV × H)) = some (.int .i64 (Int.ofNat 0), h1) from rfl, oK_some, asI_k, exNil_p, oK_some, fAddr_1]
  refine ld1_i a1 (by decide) ?_
  rw [q1, lenV_nils, show wrap .i64 (isub (Int.ofNat 0) (Int.ofNat 0)) = Int.ofNat 0 by kernel_rfl, fI_eq]
  refine cnd_t (by rw [iblt_eq]; exact decide_eq_true (by show ((0 : Nat) : Int) < (n : Int); omega)) ?_
  exact c87 a1 (by rw [n1, next_new]; omega) p1 q1 hn fun h' hb' => hk h' hb'
/-! ### strings.ToLower of ASCII -/
def isU (x : UInt8) : Bool := decide (65 ≤ x.toNat) && decide (x.toNat ≤ 90)
def lowB (x : UInt8) : UInt8 := if isU x then x + 32 else x
def lowS (s : List UInt8) : List UInt8 := s.map lowB
theorem low_none {s : List UInt8} (h : s.any isU = false) : lowS s = s := by
  unfold lowS
  rw [List.any_eq_false] at h
  conv => rhs; rw [← List.map_id s]
  apply List.map_congr_left
  intro x hx
  have := h x hx
  unfold lowB
  rw [if_neg this]; rfl
theorem iadd1 {i : Nat} (h : i < 9223372036854775807) : wrap .i64 (iadd (Int.ofNat i) (Int.ofNat 1)) = Int.ofNat (i + 1) := by
  rw [iadd_eq, show Int.ofNat i + Int.ofNat 1 = Int.ofNat (i + 1) from rfl]
  exact wrapN (by omega)
theorem upK {x : UInt8} {h : H} {k : Bool → H → Prop} (hk : k (isU x) h) : joinB (fun k6 => gate true (ible (Int.ofNat 65) (Int.ofNat x.toNat)) (k6 (ible (Int.ofNat x.toNat) (Int.ofNat 90)) h) (k6 false h)) k := by
  refine and_b ?_
  have : (ible (Int.ofNat 65) (Int.ofNat x.toNat) && ible (Int.ofNat x.toNat) (Int.ofNat 90)) = isU x := by
    rw [ible_eq, ible_eq]; unfold isU
    congr 1 <;> (rw [Bool.eq_iff_iff, decide_eq_true_eq, decide_eq_true_eq]; exact Int.ofNat_le)
  rw [this]; exact hk
def ascii (s : List UInt8) : Prop := ∀ x ∈ s, x.toNat < 128
theorem c58_1 {s : List UInt8} {k : KV} {e : Nat} (hs : ascii s) (hl : s.length ≤ 1099511627776) : ∀ (n i : Nat) (u : Bool), s.length - i + e + 1 ≤ n → i ≤ s.length → (∀ n', e ≤ n' → (r58 W1 k n').a5 s.length (enc s) true (u || (s.drop i).any isU) h0) → (r58 W1 k n).a1 s.length (enc s) true u (Int.ofNat i) h0
  | 0, _, _, hn, _, _ => absurd hn (by omega)
  | n + 1, i, u, hn, hi, hk => by
    refine j58_1 ?_
    unfold s58_1
    rw [iblt_eq]
    refine cnd_i (fun e' => ?_) (fun e' => ?_)
    · have e' : i < s.length := Int.ofNat_lt.1 (of_decide_eq_true e')
      rw [natI_eq]
      refine idxS_i e' ?_
      have hx : (s[i]).toNat < 128 := hs _ (List.getElem_mem e')
      refine cnd_f (by rw [ible_eq]; exact decide_eq_false fun h => by have := Int.ofNat_le.1 h; omega) ?_
      have hd : s.drop i = s[i] :: s.drop (i + 1) := List.drop_eq_getElem_cons e'
      refine or_q (b := isU s[i]) (fun k' hk' => upK hk') ?_
      rw [iadd1 (by omega), fI_eq]
      refine c58_1 (e := e) hs hl n (i + 1) _ (by omega) e' ?_
      intro n' hn'
      have := hk n' hn'
      rw [hd, List.any_cons, ← Bool.or_assoc] at this
      exact this
    · have e' : ¬ i < s.length := fun h => (of_decide_eq_false e') (Int.ofNat_lt.2 h)
      have hd : s.drop i = [] := by rw [List.drop_eq_nil_iff]; omega
      have := hk n (by omega)
      rw [hd] at this
      simpa using this
theorem u8_low {x : UInt8} (h : isU x = true) : wrap .u8 (iadd (Int.ofNat x.toNat) (Int.ofNat 32)) = Int.ofNat (lowB x).toNat := by
  unfold lowB
  rw [if_pos h]
  have hx : x.toNat ≤ 90 := by unfold isU at h; simp at h; exact h.2
  have : (x + 32).toNat = x.toNat + 32 := by
    rw [UInt8.toNat_add]; show (x.toNat + 32) % 256 = _; omega
  rw [this, iadd_eq, wrap_eq]
  show IntKind.wrap .u8 ((x.toNat + 32 : Nat) : Int) = ((x.toNat + 32 : Nat) : Int)
  simp [IntKind.wrap, IntKind.bits, IntKind.signed]
  omega
theorem low_take {s : List UInt8} {p i : Nat} (hp : p ≤ i) (h : ((s.drop p).take (i - p)).any isU = false) : lowS (s.take i) = lowS (s.take p) ++ (s.drop p).take (i - p) := by
  have e : s.take i = s.take p ++ (s.drop p).take (i - p) := by
    have := List.take_add (l := s) (i := p) (j := i - p)
    rw [show p + (i - p) = i by omega] at this; exact this
  rw [e]
  unfold lowS
  rw [List.map_append]
  congr 1
  exact low_none h
theorem c58_2 {s : List UInt8} {k : KV} {b : P} (hl : s.length ≤ 1099511627776) (hne : s ≠ []) (hk : ∀ h, k (S (lowS s)) h) : ∀ (n i p : Nat) (g : Bool) (h : H), 3 * (s.length - i) + 1 ≤ n → i ≤ s.length → p ≤ i → ((s.drop p).take (i - p)).any isU = false → Bld g h b (lowS (s.take p)) → (r58 W1 k n).a2 s.length (enc s) (.ptr b 0) (Int.ofNat p) (Int.ofNat i) h
  | 0, _, _, _, _, hn, _, _, _, _ => absurd hn (by omega)
  | n + 1, i, p, g, h, hn, hi, hp, ha, hb => by
    refine j58_2 ?_
    unfold s58_2
    rw [iblt_eq]
    refine cnd_i (fun e' => ?_) (fun e' => ?_)
    · have e' : i < s.length := Int.ofNat_lt.1 (of_decide_eq_true e')
      have htk : s.take (i + 1) = s.take i ++ [s[i]] := by rw [List.take_add_one, List.getElem?_eq_getElem e']; rfl
      rw [natI_eq]
      refine idxS_i e' ?_
      refine upK ?_
      refine cnd_i (fun eu => ?_) (fun eu => ?_)
      · rw [u8_low eu, fI_eq]
        have step : ∀ g' h', Bld g' h' b (lowS (s.take i)) → (r58 W1 k n).a3 s.length (enc s) (.ptr b 0) (Int.ofNat i) (Int.ofNat (lowB s[i]).toNat) h' := by
          intro g' h' hb'
          obtain ⟨m, rfl⟩ : ∃ m, n = m + 2 := ⟨n - 2, by omega⟩
          refine j58_3 ?_
          unfold s58_3
          refine c13 hb' (by unfold lowS; rw [List.length_map, List.length_take]; omega) fun h2 hb2 => ?_
          rw [iadd1 (by omega), fI_eq]
          refine j58_4 ?_
          unfold s58_4
          rw [iadd1 (by omega), fI_eq]
          refine c58_2 hl hne hk m (i + 1) (i + 1) false h2 (by omega) e' (Nat.le_refl _) (by simp) ?_
          rw [htk]; unfold lowS at hb2 ⊢; rw [List.map_append]; exact hb2
        rw [iblt_eq]
        refine cnd_i (fun e2 => ?_) (fun e2 => ?_)
        · have e2 : p < i := Int.ofNat_lt.1 (of_decide_eq_true e2)
          rw [natI_eq, natI_eq]
          refine cutS_i hp (by omega) ?_
          refine c14 hb (fun h => ?_) ?_ fun v h' hb' => ?_
          · have := congrArg List.length h
            simp at this; omega
          · unfold lowS; rw [List.length_map, List.length_take, List.length_take, List.length_drop]; omega
          · refine step false h' ?_
            rw [low_take hp ha]; exact hb'
        · have e2 : p = i := by
            have : ¬ p < i := fun h => (of_decide_eq_false e2) (Int.ofNat_lt.2 h)
            omega
          subst e2
          exact step g h hb
      · obtain ⟨m, rfl⟩ : ∃ m, n = m + 1 := ⟨n - 1, by omega⟩
        refine j58_4 ?_
        unfold s58_4
        rw [iadd1 (by omega), fI_eq]
        refine c58_2 hl hne hk m (i + 1) p g h (by omega) e' (by omega) ?_ hb
        have e3 : (s.drop p).take (i + 1 - p) = (s.drop p).take (i - p) ++ [s[i]] := by
          rw [show i + 1 - p = (i - p) + 1 by omega, List.take_add_one, List.getElem?_drop, show p + (i - p) = i by omega, List.getElem?_eq_getElem e']; rfl
        rw [e3, List.any_append, ha]; simp [eu]
    · have e' : i = s.length := by
        have : ¬ i < s.length := fun h => (of_decide_eq_false e') (Int.ofNat_lt.2 h)
        omega
      subst e'
      have hlow : lowS s = lowS (s.take p) ++ (s.drop p).take (s.length - p) := by
        have := low_take hp ha
        rw [List.take_length] at this; exact this
      have hlne : lowS s ≠ [] := by unfold lowS; simpa using hne
      have hll : (lowS s).length ≤ 9223372036854775807 := by unfold lowS; rw [List.length_map]; omega
      rw [iblt_eq]
      refine cnd_i (fun e2 => ?_) (fun e2 => ?_)
      · have e2 : p < s.length := Int.ofNat_lt.1 (of_decide_eq_true e2)
        rw [natI_eq]
        refine cutS_i hp (Nat.le_refl _) ?_
        refine c14 hb (fun h => ?_) ?_ fun v h' hb' => ?_
        · have := congrArg List.length h
          simp at this; omega
        · unfold lowS; rw [List.length_map, List.length_take, List.length_take, List.length_drop]; omega
        · rw [← hlow] at hb'
          refine c16 hb' (.inr hlne) hll fun h2 => ?_
          rw [asS_s]; exact hk h2
      · have e2 : p = s.length := by
          have : ¬ p < s.length := fun h => (of_decide_eq_false e2) (Int.ofNat_lt.2 h)
          omega
        subst e2
        rw [List.take_length] at hb
        refine c16 hb (.inr hlne) hll fun h2 => ?_
        rw [asS_s]; exact hk h2
theorem c58 (s : List UInt8) (hs : ascii s) (hl : s.length ≤ 1099511627776) : Pure PP G h0 58 [S s] (S (lowS s)) := by
  refine w58 (n := 4 * s.length + 10) sw_ok (g58 ?_)
  unfold s58_0
  refine c58_1 (e := 3 * s.length + 2) hs hl _ 0 false (by omega) (Nat.zero_le _) ?_
  intro n' hn'
  rw [List.drop_zero, Bool.false_or]
  obtain ⟨m, rfl⟩ : ∃ m, n' = m + 1 := ⟨n' - 1, by omega⟩
  refine j58_5 ?_
  unfold s58_5
  refine cnd_t rfl ?_
  refine cnd_i (fun e => ?_) (fun e => ?_)
  · rw [bnot_eq] at e
    have e : s.any isU = false := by simpa using e
    rw [low_none e]
  · rw [bnot_eq] at e
    have e : s.any isU = true := by simpa using e
    have hne : s ≠ [] := fun h => by subst h; cases e
    have hpos : 1 ≤ s.length := by
      cases s with
      | nil => exact absurd rfl hne
      | cons _ _ => simp
    refine newK_i ?_
    refine c74 hpos hl fun h' hb' => ?_
    refine c58_2 hl hne (fun _ => rfl) m 0 0 true h' (by omega) (Nat.zero_le _) (Nat.le_refl _) (by simp) ?_
    exact hb'
end Go.Den

namespace Go.Den
open Go.RowKit
set_option maxRecDepth 100000
/-! ### What stands behind a backslash -/
theorem c59 (L : List UInt8) (x : UInt8) (hx : x.toNat < 128) : Pure PP G h0 59 [S L, .int .i32 (Int.ofNat x.toNat)] (.int .i64 (posL L x)) := by
  refine w59 (n := 1) sw_ok (g59 ?_)
  unfold s59_0
  refine and_b ?_
  have e1 : (ible (Int.ofNat 0) (Int.ofNat x.toNat) && iblt (Int.ofNat x.toNat) (Int.ofNat 128)) = true := by
    rw [ile, ilt, decide_eq_true (Nat.zero_le _), decide_eq_true hx]; rfl
  refine cnd_t e1 ?_
  have e2 : wrap .u8 (Int.ofNat x.toNat) = Int.ofNat x.toNat := by
    rw [wrap_eq]
    simp [IntKind.wrap, IntKind.bits, IntKind.signed]
    omega
  rw [e2, fI_eq]
  refine use2 (c56 L x) ?_
  rw [asI_k]
def lowX : List UInt8 := [48, 49, 50, 51, 52, 53, 54, 55, 56, 57, 97, 98, 99, 100, 101, 102]
def digL (c : UInt8) : Nat := if c.toNat ≤ 57 then c.toNat - 48 else c.toNat - 87
theorem dig_pos : ∀ x ∈ lowX, posL hexL x = Int.ofNat (digL x) := by
  intro x hx
  simp only [lowX, List.mem_cons, List.not_mem_nil, or_false] at hx
  rcases hx with rfl | rfl | rfl | rfl | rfl | rfl | rfl | rfl | rfl | rfl | rfl | rfl | rfl | rfl | rfl | rfl <;> kernel_rfl
theorem dig_le : ∀ x ∈ lowX, digL x ≤ 15 := by decide
theorem low_hex : ∀ x ∈ hexL, lowB x ∈ lowX := by decide
theorem lowX_128 : ∀ x ∈ lowX, x.toNat < 128 := by decide
theorem hex_128 : ∀ x ∈ hexL, x.toNat < 128 := by decide
theorem oct_hex : ∀ x ∈ octL, x ∈ hexL := by decide
def valF (B : Nat) (v : Nat) (ds : List UInt8) : Nat := ds.foldl (fun v c => (v * B + digL c) &&& 4095) v
def escIn : List UInt8 := [39, 34, 63, 92, 97, 98, 102, 110, 114, 116, 118]
def escOut : List UInt8 := [39, 34, 63, 92, 7, 8, 12, 10, 13, 9, 11]
def simpE (x : UInt8) : Option UInt8 :=
  if x = 39 then some 39 else if x = 34 then some 34 else if x = 63 then some 63 else if x = 92 then some 92 else if x = 97 then some 7 else if x = 98 then some 8
  else if x = 102 then some 12 else if x = 110 then some 10 else if x = 114 then some 13 else if x = 116 then some 9 else if x = 118 then some 11 else none
theorem simp_in : ∀ x ∈ escIn, ∃ i y, posL escIn x = Int.ofNat i ∧ simpE x = some y ∧ ∃ h : i < escOut.length, escOut[i] = y := by
  intro x hx
  simp only [escIn, List.mem_cons, List.not_mem_nil, or_false] at hx
  rcases hx with rfl | rfl | rfl | rfl | rfl | rfl | rfl | rfl | rfl | rfl | rfl
  · exact ⟨0, _, by kernel_rfl, rfl, by decide, rfl⟩
  · exact ⟨1, _, by kernel_rfl, rfl, by decide, rfl⟩
  · exact ⟨2, _, by kernel_rfl, rfl, by decide, rfl⟩
  · exact ⟨3, _, by kernel_rfl, rfl, by decide, rfl⟩
  · exact ⟨4, _, by kernel_rfl, rfl, by decide, rfl⟩
  · exact ⟨5, _, by kernel_rfl, rfl, by decide, rfl⟩
  · exact ⟨6, _, by kernel_rfl, rfl, by decide, rfl⟩
  · exact ⟨7, _, by kernel_rfl, rfl, by decide, rfl⟩
  · exact ⟨8, _, by kernel_rfl, rfl, by decide, rfl⟩
  · exact ⟨9, _, by kernel_rfl, rfl, by decide, rfl⟩
  · exact ⟨10, _, by kernel_rfl, rfl, by decide, rfl⟩
theorem simp_out {x : UInt8} (h : x ∉ escIn) : simpE x = none := by
  simp [escIn] at h
  obtain ⟨h1, h2, h3, h4, h5, h6, h7, h8, h9, h10, h11⟩ := h
  unfold simpE
  rw [if_neg h1, if_neg h2, if_neg h3, if_neg h4, if_neg h5, if_neg h6, if_neg h7, if_neg h8, if_neg h9, if_neg h10, if_neg h11]
def numE (s : List UInt8) (n f B : Nat) : UInt8 × Nat := if n ≤ f then (0, 0) else (UInt8.ofNat (valF B 0 (lowS ((s.drop f).take (n - f)))), n)
def escL (s : List UInt8) : UInt8 × Nat := match s with
  | [] => (0, 0)
  | c :: r => match simpE c with
    | some y => (y, 1)
    | none => if c = 120 then numE (c :: r) (1 + runL r hexL) 1 16 else numE (c :: r) (min (runL (c :: r) octL) 3) 0 8
theorem land_i {a b : Nat} {K : Int → Prop} (ha : a ≤ 9223372036854775807) (hb : b ≤ 9223372036854775807) (hk : K (Int.ofNat (a &&& b))) : bitI Nat.land .i64 (Int.ofNat a) (Int.ofNat b) K := by
  show (Bool.rec False (fN (Nat.land a b) (fun n => K (.ofNat n))) (band (Nat.ble a (intMax .i64)) (Nat.ble b (intMax .i64))) : Prop)
  rw [Nat.ble_eq_true_of_le (show a ≤ intMax .i64 from ha), Nat.ble_eq_true_of_le (show b ≤ intMax .i64 from hb)]
  exact hk
theorem next_i {h : H} {p : P} {s : List UInt8} {i : Nat} (ha : h.at p = .iter s.length (enc s) i) : exNext (.ptr p 0) true h = nextStr p s.length (enc s) i h := by
  unfold exNext
  simp only [ha]
  rfl
theorem rng9 (l c : Nat) (h : H) : exRange env 9 (.str l c) h = some (.ptr h.next 0, h.new (.iter l c 0)) := by kernel_rfl
theorem wrap_u8 (n : Nat) : wrap .u8 (Int.ofNat n) = Int.ofNat (UInt8.ofNat n).toNat := by
  rw [wrap_eq]
  have : (UInt8.ofNat n).toNat = n % 256 := by simp
  rw [this]
  simp [IntKind.wrap, IntKind.bits, IntKind.signed]
theorem c34_1 {ds : List UInt8} {B n5 : Nat} {p : P} {k : KV} (hds : ∀ x ∈ ds, x ∈ lowX) (hB : B ≤ 16) : ∀ (n i v : Nat) (h : H), ds.length - i < n → i ≤ ds.length → v ≤ 4095 → h.at p = .iter ds.length (enc ds) i →
    (∀ h', k (.tuple [ub (UInt8.ofNat (valF B v (ds.drop i))), .int .i64 (Int.ofNat n5)]) h') → (r34 W1 k n).a1 (Int.ofNat n5) (Int.ofNat B) (Int.ofNat v) (.ptr p 0) h
  | 0, _, _, _, hn, _, _, _, _ => absurd hn (Nat.not_lt_zero _)
  | n + 1, i, v, h, hn, hi, hv, ha, hk => by
    refine j34_1 ?_
    unfold s34_1
    rw [next_i ha]
    by_cases e : i < ds.length
    · have hd : ds.drop i = ds[i] :: ds.drop (i + 1) := List.drop_eq_getElem_cons e
      have hx := hds _ (List.getElem_mem e)
      have hx1 := lowX_128 _ hx
      have e1 : nextStr p ds.length (enc ds) i h = some (.tuple [.bool true, .int .i64 (.ofNat i), .int .i32 (.ofNat (ds[i]).toNat)], h.put p (.iter ds.length (enc ds) (Nat.add i 1))) := by
        unfold nextStr
        rw [Nat.ble_eq_true_of_le (show Nat.add i 1 ≤ ds.length from e), get_enc e]
        have : Nat.ble 128 (ds[i]).toNat = false := by
          cases hb : Nat.ble 128 (ds[i]).toNat with
          | false => rfl
          | true => exact absurd (Nat.le_of_ble_eq_true hb) (by omega)
        rw [this]
      rw [e1, oK_some, ext_0, asB_b]
      refine cnd_t rfl ?_
      rw [ext_2, asI_k]
      have hdl := dig_le _ hx
      have hm : v * B ≤ 4095 * 16 := Nat.mul_le_mul hv hB
      have w1 : wrap .i64 (Int.ofNat v * Int.ofNat B) = Int.ofNat (v * B) := by
        rw [show Int.ofNat v * Int.ofNat B = Int.ofNat (v * B) from rfl]; exact wrapN (by omega)
      rw [w1, fI_eq]
      refine use2 (c59 hexL ds[i] hx1) ?_
      rw [asI_k, dig_pos _ hx]
      have w2 : wrap .i64 (iadd (Int.ofNat (v * B)) (Int.ofNat (digL ds[i]))) = Int.ofNat (v * B + digL ds[i]) := by
        rw [iadd_eq, show Int.ofNat (v * B) + Int.ofNat (digL ds[i]) = Int.ofNat (v * B + digL ds[i]) from rfl]; exact wrapN (by omega)
      rw [w2, fI_eq]
      refine land_i (by omega) (by omega) ?_
      refine c34_1 hds hB n (i + 1) _ _ (by omega) e Nat.and_le_right (at_put_same _ _ _) ?_
      rw [hd] at hk
      exact hk
    · have hd : ds.drop i = [] := by rw [List.drop_eq_nil_iff]; omega
      have e1 : nextStr p ds.length (enc ds) i h = some (.tuple [.bool false], h) := by
        unfold nextStr
        have : Nat.ble (Nat.add i 1) ds.length = false := by
          cases hb : Nat.ble (Nat.add i 1) ds.length with
          | false => rfl
          | true => exact absurd (Nat.le_of_ble_eq_true hb) (by show ¬ i + 1 ≤ _; omega)
        rw [this]
      rw [e1, oK_some, ext_0, asB_b]
      refine cnd_f rfl ?_
      rw [wrap_u8, fI_eq]
      rw [hd] at hk
      exact hk h
theorem c34_2 {s : List UInt8} {n f B m : Nat} {k : KV} (hl : s.length ≤ 1099511627776) (hn : n ≤ s.length) (hd : ∀ x ∈ (s.drop f).take (n - f), x ∈ hexL) (hB : B ≤ 16) (hm : s.length + 2 ≤ m)
    (hk : ∀ h', k (.tuple [ub (numE s n f B).1, .int .i64 (Int.ofNat (numE s n f B).2)]) h') : (r34 W1 k (m + 1)).a2 s.length (enc s) (Int.ofNat n) (Int.ofNat B) (Int.ofNat f) h0 := by
  refine j34_2 ?_
  unfold s34_2
  rw [ible_eq]
  unfold numE at hk
  refine cnd_i (fun e => ?_) (fun e => ?_)
  · have e : n ≤ f := Int.ofNat_le.1 (of_decide_eq_true e)
    rw [if_pos e] at hk; exact hk _
  · have e : ¬ n ≤ f := fun h => (of_decide_eq_false e) (Int.ofNat_le.2 h)
    rw [if_neg e] at hk
    rw [natI_eq, natI_eq]
    refine cutS_i (by omega) hn ?_
    have ll : ((s.drop f).take (n - f)).length ≤ s.length := by rw [List.length_take, List.length_drop]; omega
    refine use2 (c58 _ (fun x hx => hex_128 x (hd x hx)) (by omega)) ?_
    rw [asS_s, rng9, oK_some]
    have l2 : (lowS ((s.drop f).take (n - f))).length ≤ s.length := by unfold lowS; rw [List.length_map]; exact ll
    refine c34_1 (fun x hx => ?_) hB _ 0 0 _ (by omega) (Nat.zero_le _) (Nat.zero_le _) (at_new_same _ _) ?_
    · obtain ⟨y, hy, rfl⟩ := List.mem_map.1 hx
      exact low_hex y (hd y hy)
    · rw [List.drop_zero]; exact hk
theorem take_run (s set : List UInt8) : s.take (runL s set) = s.takeWhile (· ∈ set) := (List.prefix_iff_eq_take.1 (List.takeWhile_prefix _)).symm
theorem run_mem {s set : List UInt8} {x : UInt8} {n : Nat} (hn : n ≤ runL s set) (hx : x ∈ s.take n) : x ∈ set := by
  have h1 : x ∈ s.take (runL s set) := List.take_subset_take_left _ hn hx
  rw [take_run] at h1
  have := List.all_eq_true.1 List.all_takeWhile x h1
  simpa using this
theorem min3 (n : Nat) (h : H) : builtinA env .min [3, 3] [.int .i64 (Int.ofNat n), .int .i64 (Int.ofNat 3)] h = some (.int .i64 (Int.ofNat (min n 3)), h) := by
  have e : builtinA env .min [3, 3] [.int .i64 (Int.ofNat n), .int .i64 (Int.ofNat 3)] h = some (.int .i64 (Bool.rec (Int.ofNat n) (Int.ofNat 3) (iblt (Int.ofNat 3) (Int.ofNat n))), h) := by kernel_rfl
  rw [e, ilt]
  by_cases hc : 3 < n
  · rw [decide_eq_true hc, Nat.min_eq_right (by omega)]
  · rw [decide_eq_false hc, Nat.min_eq_left (by omega)]
theorem c34 (s : List UInt8) (hl : s.length ≤ 1099511627776) : Pure PP G h0 34 [S s] (.tuple [ub (escL s).1, .int .i64 (Int.ofNat (escL s).2)]) := by
  refine w34 (n := s.length + 10) sw_ok (g34 ?_)
  unfold s34_0
  cases s with
  | nil => exact cnd_t rfl rfl
  | cons c r =>
    refine cnd_f (strEq_cons c r) ?_
    refine idxS_i (s := c :: r) (Nat.zero_lt_succ _) ?_
    refine use2 (c56 escIn c) ?_
    rw [asI_k, ible_eq]
    by_cases hin : c ∈ escIn
    · obtain ⟨i, y, e1, e2, e3, e4⟩ := simp_in c hin
      have ee : escL (c :: r) = (y, 1) := by show (match simpE c with | some y => (y, 1) | none => _) = _; rw [e2]
      show cnd (decide (Int.ofNat 0 ≤ posL escIn c)) _ _
      rw [e1]
      refine cnd_t (decide_eq_true (Int.ofNat_le.2 (Nat.zero_le _))) ?_
      rw [natI_eq]
      refine idxS_i (s := escOut) e3 ?_
      show AV.tuple [_, _] = AV.tuple [_, _]
      rw [ee, e4]; rfl
    · have hneg : posL escIn c < 0 := (posL_neg escIn c).2 hin
      have es := simp_out hin
      refine cnd_f (decide_eq_false fun h => by have : (0 : Int) ≤ posL escIn c := h; omega) ?_
      refine use2 (c57 oct_ok (by decide) (c :: r) (by omega)) ?_
      rw [asI_k, min3, oK_some, asI_k]
      refine idxS_i (s := c :: r) (Nat.zero_lt_succ _) ?_
      rw [toNat_eq _ 120 (by decide)]
      have hlr : r.length ≤ 1099511627776 := by simp at hl; omega
      refine cnd_i (fun e => ?_) (fun e => ?_)
      · have e : c = 120 := of_decide_eq_true e
        refine cutS_d (s := c :: r) (Nat.le_add_left 1 _) ?_
        refine use2 (c57 hex_ok (by decide) r (by omega)) ?_
        have hr := runL_le r hexL
        have w1 : wrap .i64 (iadd (Int.ofNat 1) (Int.ofNat (runL r hexL))) = Int.ofNat (1 + runL r hexL) := by
          rw [iadd_eq, show Int.ofNat 1 + Int.ofNat (runL r hexL) = Int.ofNat (1 + runL r hexL) from rfl]; exact wrapN (by omega)
        rw [asI_k, w1, fI_eq]
        refine c34_2 (s := c :: r) (n := 1 + runL r hexL) (f := 1) (B := 16) hl (by simp; omega) (fun x hx => ?_) (Nat.le_refl _) (by omega) fun h' => ?_
        · rw [List.drop_succ_cons, List.drop_zero, show 1 + runL r hexL - 1 = runL r hexL by omega] at hx
          exact run_mem (Nat.le_refl _) hx
        · have ee : escL (c :: r) = numE (c :: r) (1 + runL r hexL) 1 16 := by
            show (match simpE c with | some y => (y, 1) | none => _) = _
            rw [es]; exact if_pos e
          rw [ee]
      · have e : ¬ c = 120 := of_decide_eq_false e
        have hr := runL_le (c :: r) octL
        refine c34_2 (s := c :: r) (n := min (runL (c :: r) octL) 3) (f := 0) (B := 8) hl (by omega) (fun x hx => ?_) (by decide) (by omega) fun h' => ?_
        · rw [List.drop_zero, Nat.sub_zero] at hx
          exact oct_hex x (run_mem (Nat.min_le_left _ _) hx)
        · have ee : escL (c :: r) = numE (c :: r) (min (runL (c :: r) octL) 3) 0 8 := by
            show (match simpE c with | some y => (y, 1) | none => _) = _
            rw [es]; exact if_neg e
          rw [ee]
theorem escL_le (s : List UInt8) : (escL s).2 ≤ s.length := by
  cases s with
  | nil => exact Nat.le_refl _
  | cons c r =>
    show (match simpE c with | some y => (y, 1) | none => if c = 120 then numE (c :: r) (1 + runL r hexL) 1 16 else numE (c :: r) (min (runL (c :: r) octL) 3) 0 8 : UInt8 × Nat).2 ≤ _
    have key : ∀ n f B, n ≤ (c :: r).length → (numE (c :: r) n f B).2 ≤ (c :: r).length := by
      intro n f B hn
      unfold numE
      split
      · exact Nat.zero_le _
      · exact hn
    cases simpE c with
    | some y => exact Nat.le_add_left 1 _
    | none =>
      have h1 := runL_le r hexL
      have h2 := runL_le (c :: r) octL
      show (if c = 120 then _ else _ : UInt8 × Nat).2 ≤ _
      split
      · exact key _ _ _ (by simp; omega)
      · exact key _ _ _ (by omega)
/-! ### Letters ahead of a quote -/
def quoteAt : List UInt8 → Bool
  | [] => false
  | c :: _ => decide (c = 34) || decide (c = 39)
def prefs : List (List UInt8) := [[], [76], [117], [85], [117, 56]]
def lettersF : List (List UInt8) → List UInt8 → List UInt8 × Bool
  | [], _ => ([], false)
  | s :: ss, text => if (decide (text.take s.length = s) && quoteAt (text.drop s.length)) then (s, true) else lettersF ss text
def lettersL (text : List UInt8) : List UInt8 × Bool := lettersF prefs text
noncomputable def T5b : Tm := Option.rec .e (fun t => t) (fillL (placeA 1) 5 [(0, .str 0 0), (1, .str 1 76), (2, .str 1 117), (3, .str 1 85), (4, .str 2 14453)] (tlist (repl [.str 0 0] 5) 0 .e))
theorem b5b (h : H) : withElem env 33 (fun e ei => exBuildSlice 5 [(0, (.str 0 0)), (1, (.str 1 76)), (2, (.str 1 117)), (3, (.str 1 85)), (4, (.str 2 14453))] h e ei) = some (.slice h.next 0 5 1 true, h.new (.row T5b 5 0 9 true)) := by kernel_rfl
theorem pick5b {h : H} {b : P} (ha : h.at b = .row T5b 5 0 9 true) {r : Nat} (hr : r < 5) {K : Nat → Nat → Prop} (hk : ∀ t rest, prefs.drop r = t :: rest → rest = prefs.drop (r + 1) → K t.length (enc t)) : elemA 1 r (.slice b 0 5 1 true) fun v => ld1 v h fun v => asS v K := by
  have key : ∀ t, prefs.drop r = t :: prefs.drop (r + 1) → tget T5b r = S t → elemA 1 r (.slice b 0 5 1 true) fun v => ld1 v h fun v => asS v K := by
    intro t ht e
    have hb : elemA 1 r (.slice b 0 5 1 true) (fun v => ld1 v h fun v => asS v K) = ld1 (.ptr b r) h fun v => asS v K := by
      match r, hr with
      | 0, _ | 1, _ | 2, _ | 3, _ | 4, _ => rfl
    rw [hb]
    refine ld1_i ha hr ?_
    rw [e]
    exact hk t _ ht rfl
  match r, hr with
  | 0, _ => exact key [] rfl (by kernel_rfl)
  | 1, _ => exact key [76] rfl (by kernel_rfl)
  | 2, _ => exact key [117] rfl (by kernel_rfl)
  | 3, _ => exact key [85] rfl (by kernel_rfl)
  | 4, _ => exact key [117, 56] rfl (by kernel_rfl)
theorem c22' (s t : List UInt8) : Pure PP G h0 22 [S s, S t] (if s.take t.length = t then .tuple [S (s.drop t.length), .bool true] else .tuple [S s, .bool false]) := by
  have h := c22 s t
  unfold cutP at h
  by_cases e : s.take t.length = t
  · rw [if_pos e] at h ⊢; exact h
  · rw [if_neg e] at h ⊢; exact h
theorem c33_1 {s : List UInt8} {h : H} {b : P} (ha : h.at b = .row T5b 5 0 9 true) {k : KV} : ∀ (n i : Nat), 5 - i < n → i ≤ 5 → k (.tuple [S (lettersF (prefs.drop i) s).1, .bool (lettersF (prefs.drop i) s).2]) h → (r33 W1 k n).a1 s.length (enc s) (.slice b 0 5 1 true) (Int.ofNat 5) (Int.ofNat i) h
  | 0, _, hn, _, _ => absurd hn (Nat.not_lt_zero _)
  | n + 1, i, hn, hi, hk => by
    refine j33_1 ?_
    unfold s33_1
    rw [iblt_eq]
    refine cnd_i (fun e => ?_) (fun e => ?_)
    · have e : i < 5 := Int.ofNat_lt.1 (of_decide_eq_true e)
      rw [natI_eq]
      refine pick5b ha e fun t rest h1 h2 => ?_
      rw [h1] at hk
      have rec_ : (decide (s.take t.length = t) && quoteAt (s.drop t.length)) = false → fI (wrap .i64 (iadd (Int.ofNat i) (Int.ofNat 1))) fun n27 => (r33 W1 k n).a1 s.length (enc s) (.slice b 0 5 1 true) (Int.ofNat 5) n27 h := by
        intro hc
        rw [iadd1 (by omega), fI_eq]
        refine c33_1 ha n (i + 1) (by omega) e ?_
        rw [← h2]
        have : lettersF (t :: rest) s = lettersF rest s := if_neg (by rw [hc]; simp)
        rw [this] at hk; exact hk
      refine use2 (c22' s t) ?_ rfl (by split <;> rfl)
      by_cases ht : s.take t.length = t
      · rw [if_pos ht, ext_0, asS_s, ext_1, asB_b]
        refine and_b ?_
        rw [strEq_nil, bnot_eq]
        cases hr : s.drop t.length with
        | nil =>
          refine and_i (fun e => ?_) (fun _ => ?_)
          · simp at e
          · exact cnd_f rfl (rec_ (by rw [hr]; simp [quoteAt]))
        | cons c r =>
          refine and_i (fun _ => ?_) (fun e => ?_)
          · refine idxS_i (s := c :: r) (Nat.zero_lt_succ _) ?_
            refine or_q (b := decide (c = 39)) (fun k' hk' => ?_) ?_
            · refine idxS_i (s := c :: r) (Nat.zero_lt_succ _) ?_
              rw [toNat_eq _ 39 (by decide)]; exact hk'
            · rw [toNat_eq _ 34 (by decide)]
              refine cnd_i (fun e => ?_) (fun e => ?_)
              · have : lettersF (t :: rest) s = (t, true) := if_pos (by rw [hr]; rw [decide_eq_true ht]; exact e)
                rw [this] at hk; exact hk
              · refine rec_ ?_
                rw [hr, decide_eq_true ht]; exact e
          · simp at e
      · rw [if_neg ht, ext_0, asS_s, ext_1, asB_b]
        refine and_i (fun e => by cases e) (fun _ => ?_)
        refine and_i (fun e => by cases e) (fun _ => ?_)
        exact cnd_f rfl (rec_ (by rw [decide_eq_false ht]; rfl))
    · have e : i = 5 := by
        have : ¬ i < 5 := fun h => (of_decide_eq_false e) (Int.ofNat_lt.2 h)
        omega
      subst e
      exact hk
theorem c33 (s : List UInt8) : Pure PP G h0 33 [S s] (.tuple [S (lettersL s).1, .bool (lettersL s).2]) := by
  refine w33 (n := 10) sw_ok (g33 ?_)
  unfold s33_0
  rw [b5b, oK_some]
  show (r33 W1 _ 9).a1 s.length (enc s) (.slice h0.next 0 5 1 true) (Int.ofNat 5) (Int.ofNat 0) _
  exact c33_1 (at_new_same _ _) 9 0 (by decide) (by decide) rfl
end Go.Den

namespace Go.Den
open Go.RowKit
set_option maxRecDepth 100000
/-! ### What stands between quotes -/
def bodyL (q : UInt8) : Nat → List UInt8 → Option (List UInt8)
  | 0, _ => none
  | _ + 1, [] => some []
  | n + 1, c :: r => if c = q then none else if c = 92 then (if (escL r).2 = 0 then none else (bodyL q n (r.drop (escL r).2)).map ((escL r).1 :: ·)) else (bodyL q n r).map (c :: ·)
theorem bodyL_fuel {q : UInt8} : ∀ (n m : Nat) (s : List UInt8), s.length < n → s.length < m → bodyL q n s = bodyL q m s
  | 0, _, _, h, _ => absurd h (Nat.not_lt_zero _)
  | _, 0, _, _, h => absurd h (Nat.not_lt_zero _)
  | n + 1, m + 1, [], _, _ => rfl
  | n + 1, m + 1, c :: r, h1, h2 => by
    have h1 : r.length < n := Nat.lt_of_succ_lt_succ h1
    have h2 : r.length < m := Nat.lt_of_succ_lt_succ h2
    show (if c = q then none else if c = 92 then (if (escL r).2 = 0 then none else (bodyL q n (r.drop (escL r).2)).map ((escL r).1 :: ·)) else (bodyL q n r).map (c :: ·)) = (if c = q then none else if c = 92 then (if (escL r).2 = 0 then none else (bodyL q m (r.drop (escL r).2)).map ((escL r).1 :: ·)) else (bodyL q m r).map (c :: ·))
    rw [bodyL_fuel n m r h1 h2, bodyL_fuel n m (r.drop (escL r).2) (by rw [List.length_drop]; omega) (by rw [List.length_drop]; omega)]
noncomputable def bytV (o : Option (List UInt8)) : AV := match o with
  | some l => .tuple [S l, .bool true]
  | none => .tuple [S [], .bool false]
/-- behind the letters -/
def quotedL (t : List UInt8) : Option (List UInt8) := match t with
  | [] => none
  | q :: r => if r = [] then none else if r.getLast? = some q then bodyL q (r.length + 1) r.dropLast else none
def bytL (s : List UInt8) : Option (List UInt8) := if (lettersL s).2 = true then quotedL (s.drop (lettersL s).1.length) else none
theorem lettersF_ok (s : List UInt8) : ∀ ps, (lettersF ps s).2 = true → s.take (lettersF ps s).1.length = (lettersF ps s).1 ∧ quoteAt (s.drop (lettersF ps s).1.length) = true
  | [], h => by cases h
  | p :: ps, h => by
    by_cases e : (decide (s.take p.length = p) && quoteAt (s.drop p.length)) = true
    · have e1 : lettersF (p :: ps) s = (p, true) := if_pos e
      rw [e1]
      simpa using e
    · have e1 : lettersF (p :: ps) s = lettersF ps s := if_neg e
      rw [e1] at h ⊢
      exact lettersF_ok s ps h
theorem lettersF_no (s : List UInt8) : ∀ ps, (lettersF ps s).2 = false → (lettersF ps s).1 = []
  | [], _ => rfl
  | p :: ps, h => by
    by_cases e : (decide (s.take p.length = p) && quoteAt (s.drop p.length)) = true
    · have e1 : lettersF (p :: ps) s = (p, true) := if_pos e
      rw [e1] at h; cases h
    · have e1 : lettersF (p :: ps) s = lettersF ps s := if_neg e
      rw [e1] at h ⊢
      exact lettersF_no s ps h
theorem lettersL_le (s : List UInt8) : (lettersL s).1.length ≤ s.length := by
  cases h : (lettersL s).2 with
  | true =>
    have := congrArg List.length (lettersF_ok s prefs h).1
    rw [List.length_take] at this
    show (lettersF prefs s).1.length ≤ s.length
    omega
  | false =>
    have : (lettersL s).1 = [] := lettersF_no s prefs h
    rw [this]; exact Nat.zero_le _
theorem isub1 {n : Nat} (h1 : 1 ≤ n) (h2 : n ≤ 9223372036854775807) : wrap .i64 (isub (Int.ofNat n) (Int.ofNat 1)) = Int.ofNat (n - 1) := by
  rw [isub_eq, show Int.ofNat n - Int.ofNat 1 = Int.ofNat (n - 1) by show (n : Int) - ((1 : Nat) : Int) = ((n - 1 : Nat) : Int); omega]
  exact wrapN (by omega)
theorem c20_1 {q : UInt8} {r : List UInt8} {b : P} {k : KV} : ∀ (n : Nat) (s acc : List UInt8) (h : H), s.length < n → s.length + acc.length ≤ 549755813888 → Bld false h b acc →
    (∀ h', k (bytV ((bodyL q n s).map (acc ++ ·))) h') → (r20 W1 k n).a1 (q :: r).length (enc (q :: r)) (.ptr b 0) s.length (enc s) h
  | 0, _, _, _, hn, _, _, _ => absurd hn (Nat.not_lt_zero _)
  | n + 1, [], acc, h, hn, hl, hb, hk => by
    refine j20_1 ?_
    unfold s20_1
    refine cnd_t rfl ?_
    refine c16 hb (.inl rfl) (by simp at hl; omega) fun h' => ?_
    rw [asS_s]
    have := hk h'
    rw [show (bodyL q (n + 1) []).map (acc ++ ·) = some acc by show some (acc ++ []) = _; rw [List.append_nil]] at this
    exact this
  | n + 1, c :: s, acc, h, hn, hl, hb, hk => by
    have hn : s.length < n := Nat.lt_of_succ_lt_succ hn
    have hl' : s.length + 1 + acc.length ≤ 549755813888 := hl
    refine j20_1 ?_
    unfold s20_1
    refine cnd_f (strEq_cons c s) ?_
    refine idxS_i (s := c :: s) (Nat.zero_lt_succ _) ?_
    refine idxS_i (s := q :: r) (Nat.zero_lt_succ _) ?_
    rw [List.getElem_cons_zero, List.getElem_cons_zero, ieqB]
    have eb : bodyL q (n + 1) (c :: s) = if c = q then none else if c = 92 then (if (escL s).2 = 0 then none else (bodyL q n (s.drop (escL s).2)).map ((escL s).1 :: ·)) else (bodyL q n s).map (c :: ·) := rfl
    rw [eb] at hk
    have mm : ∀ (x : UInt8) (o : Option (List UInt8)), (o.map (x :: ·)).map (acc ++ ·) = o.map ((acc ++ [x]) ++ ·) := by
      intro x o
      cases o with
      | none => rfl
      | some l => simp
    refine cnd_i (fun e => ?_) (fun e => ?_)
    · have e : c = q := of_decide_eq_true e
      rw [if_pos e] at hk
      obtain ⟨n', rfl⟩ : ∃ n', n = n' + 1 := ⟨n - 1, by omega⟩
      refine j20_2 ?_
      unfold s20_2
      exact hk h
    · have e : ¬ c = q := of_decide_eq_false e
      rw [if_neg e] at hk
      refine idxS_i (s := c :: s) (Nat.zero_lt_succ _) ?_
      rw [List.getElem_cons_zero, toNat_eq _ 92 (by decide), bnot_eq]
      refine cnd_i (fun e2 => ?_) (fun e2 => ?_)
      · have e2 : ¬ c = 92 := by simpa using e2
        rw [if_neg e2] at hk
        refine idxS_i (s := c :: s) (Nat.zero_lt_succ _) ?_
        refine c13 (x := c) hb (by omega) fun h' hb' => ?_
        refine cutS_d (s := c :: s) (Nat.le_add_left 1 _) ?_
        refine c20_1 n s (acc ++ [c]) h' hn (by rw [List.length_append, List.length_singleton]; omega) hb' ?_
        intro h2
        have := hk h2
        rw [mm] at this; exact this
      · have e2 : c = 92 := by simpa using e2
        rw [if_pos e2] at hk
        refine cutS_d (s := c :: s) (Nat.le_add_left 1 _) ?_
        refine use2 (c34 s (by omega)) ?_
        have hle := escL_le s
        rw [ext_0]
        show asI .u8 (.int .u8 (Int.ofNat (escL s).1.toNat)) _
        rw [asI_k, ext_1, asI_k, ilt]
        refine cnd_i (fun e3 => ?_) (fun e3 => ?_)
        · have e3 : 0 < (escL s).2 := of_decide_eq_true e3
          rw [if_neg (by omega)] at hk
          refine c13 hb (by omega) fun h' hb' => ?_
          have w1 : wrap .i64 (iadd (Int.ofNat 1) (Int.ofNat (escL s).2)) = Int.ofNat (1 + (escL s).2) := by
            rw [iadd_eq, show Int.ofNat 1 + Int.ofNat (escL s).2 = Int.ofNat (1 + (escL s).2) from rfl]; exact wrapN (by omega)
          rw [w1, fI_eq, natI_eq]
          refine cutS_d (s := c :: s) (by simp; omega) ?_
          have hd : (c :: s).drop (1 + (escL s).2) = s.drop (escL s).2 := by rw [Nat.add_comm, List.drop_succ_cons]
          rw [hd]
          refine c20_1 n (s.drop (escL s).2) (acc ++ [(escL s).1]) h' (by rw [List.length_drop]; omega) (by rw [List.length_append, List.length_singleton, List.length_drop]; omega) hb' ?_
          intro h2
          have := hk h2
          rw [mm] at this; exact this
        · have e3 : ¬ 0 < (escL s).2 := of_decide_eq_false e3
          rw [if_pos (by omega)] at hk
          exact hk h
theorem getLast_idx {q : UInt8} {r : List UInt8} (hr : r ≠ []) (h : (q :: r).length - 1 < (q :: r).length) : r.getLast? = some ((q :: r)[(q :: r).length - 1]) := by
  cases r with
  | nil => exact absurd rfl hr
  | cons c r =>
    rw [List.getLast?_eq_getElem?]
    simp
theorem c20 (s : List UInt8) (hl : s.length ≤ 549755813888) : Pure PP G h0 20 [S s] (bytV (bytL s)) := by
  refine w20 (n := s.length + 10) sw_ok (g20 ?_)
  unfold s20_0
  refine newK_i ?_
  refine use2 (c33 s) ?_
  rw [ext_0, asS_s, ext_1, asB_b]
  refine cutS_d (lettersL_le s) ?_
  have hlt : (s.drop (lettersL s).1.length).length ≤ s.length := by rw [List.length_drop]; omega
  have bad : ∀ h, bytL s = none → (r20 W1 (fun v _ => v = bytV (bytL s)) (s.length + 9)).a2 h := by
    intro h e
    refine j20_2 ?_
    unfold s20_2
    show AV.tuple _ = _
    rw [e]; rfl
  refine or_b ?_
  rw [bnot_eq, ilt]
  refine or_i (fun e => ?_) (fun e => ?_)
  · rw [Bool.or_eq_false_iff] at e
    obtain ⟨e1, e2⟩ := e
    have e1 : (lettersL s).2 = true := by simpa using e1
    have e2 : ¬ (s.drop (lettersL s).1.length).length < 2 := of_decide_eq_false e2
    have eb : bytL s = quotedL (s.drop (lettersL s).1.length) := if_pos e1
    revert hlt e2 eb
    generalize s.drop (lettersL s).1.length = t
    intro hlt e2 eb
    match t, hlt, e2, eb with
    | [], _, e2, _ => exact absurd (by decide) e2
    | [_], _, e2, _ => exact absurd (show 1 < 2 by decide) e2
    | q :: c :: r, hlt, _, eb =>
      have hne : (c :: r) ≠ [] := by simp
      have h1 : 1 ≤ (q :: c :: r).length := Nat.le_add_left 1 _
      have h2 : (q :: c :: r).length - 1 < (q :: c :: r).length := by omega
      rw [isub1 h1 (by omega), fI_eq, natI_eq]
      refine idxS_i h2 ?_
      refine idxS_i (s := q :: c :: r) (Nat.zero_lt_succ _) ?_
      rw [List.getElem_cons_zero, ieqB, bnot_eq]
      have hlast := getLast_idx hne h2
      have eb : bytL s = if (c :: r) = [] then none else if (c :: r).getLast? = some q then bodyL q ((c :: r).length + 1) (c :: r).dropLast else none := eb
      rw [if_neg hne, hlast] at eb
      refine cnd_i (fun e => ?_) (fun e => ?_)
      · have e : ¬ (q :: c :: r)[(q :: c :: r).length - 1] = q := by simpa using e
        rw [if_neg (fun h => e (Option.some.inj h))] at eb
        exact bad _ eb
      · have e : (q :: c :: r)[(q :: c :: r).length - 1] = q := by simpa using e
        rw [if_pos (congrArg some e)] at eb
        rw [fI_eq, natI_eq]
        refine cutS_i (lo := 1) (hi := (q :: c :: r).length - 1) (by simp) (by omega) ?_
        have hcut : ((q :: c :: r).drop 1).take ((q :: c :: r).length - 1 - 1) = (c :: r).dropLast := by
          rw [List.drop_succ_cons, List.drop_zero, List.dropLast_eq_take]; rfl
        rw [hcut]
        have hbl : (c :: r).dropLast.length ≤ s.length := by
          rw [List.length_dropLast]
          have : (q :: c :: r).length = (c :: r).length + 1 := rfl
          omega
        have hbn : (c :: r).dropLast.length < (c :: r).length + 1 := by rw [List.length_dropLast]; omega
        revert eb hbl hbn
        generalize (c :: r).length + 1 = N
        generalize (c :: r).dropLast = bd
        intro eb hbl hbn
        have hB := Bld.new h0
        cases bd with
        | nil =>
          refine cnd_t rfl ?_
          refine c16 hB (.inl rfl) (Nat.zero_le _) fun h' => ?_
          rw [asS_s]
          show AV.tuple _ = _
          rw [eb, bodyL_fuel N 1 [] hbn (by decide)]; rfl
        | cons d u =>
          obtain ⟨N, rfl⟩ : ∃ N', N = N' + 1 := ⟨N - 1, by omega⟩
          have hlen : (d :: u).length = u.length + 1 := rfl
          refine cnd_f (strEq_cons d u) ?_
          refine idxS_i (s := d :: u) (Nat.zero_lt_succ _) ?_
          refine idxS_i (s := q :: c :: r) (Nat.zero_lt_succ _) ?_
          rw [List.getElem_cons_zero, List.getElem_cons_zero, ieqB]
          have eb : bytL s = if d = q then none else if d = 92 then (if (escL u).2 = 0 then none else (bodyL q N (u.drop (escL u).2)).map ((escL u).1 :: ·)) else (bodyL q N u).map (d :: ·) := eb
          refine cnd_i (fun e => ?_) (fun e => ?_)
          · have e : d = q := of_decide_eq_true e
            rw [if_pos e] at eb
            exact bad _ eb
          · have e : ¬ d = q := of_decide_eq_false e
            rw [if_neg e] at eb
            refine idxS_i (s := d :: u) (Nat.zero_lt_succ _) ?_
            rw [List.getElem_cons_zero, toNat_eq _ 92 (by decide), bnot_eq]
            refine cnd_i (fun e2 => ?_) (fun e2 => ?_)
            · have e2 : ¬ d = 92 := by simpa using e2
              rw [if_neg e2] at eb
              refine idxS_i (s := d :: u) (Nat.zero_lt_succ _) ?_
              refine c13 (x := d) hB (by decide) fun h' hb' => ?_
              refine cutS_d (s := d :: u) (Nat.le_add_left 1 _) ?_
              refine c20_1 (s.length + 9) u ([] ++ [d]) h' (by omega) (by simp; omega) hb' ?_
              intro h2
              rw [eb, bodyL_fuel N (s.length + 9) u (by omega) (by omega)]; rfl
            · have e2 : d = 92 := by simpa using e2
              rw [if_pos e2] at eb
              refine cutS_d (s := d :: u) (Nat.le_add_left 1 _) ?_
              refine use2 (c34 u (by omega)) ?_
              have hle := escL_le u
              rw [ext_0]
              show asI .u8 (.int .u8 (Int.ofNat (escL u).1.toNat)) _
              rw [asI_k, ext_1, asI_k]
              refine j20_3 ?_
              unfold s20_3
              rw [ilt]
              refine cnd_i (fun e3 => ?_) (fun e3 => ?_)
              · have e3 : 0 < (escL u).2 := of_decide_eq_true e3
                rw [if_neg (by omega)] at eb
                refine c13 hB (by decide) fun h' hb' => ?_
                have w1 : wrap .i64 (iadd (Int.ofNat 1) (Int.ofNat (escL u).2)) = Int.ofNat (1 + (escL u).2) := by
                  rw [iadd_eq, show Int.ofNat 1 + Int.ofNat (escL u).2 = Int.ofNat (1 + (escL u).2) from rfl]; exact wrapN (by omega)
                rw [w1, fI_eq, natI_eq]
                refine cutS_d (s := d :: u) (by simp; omega) ?_
                have hd : (d :: u).drop (1 + (escL u).2) = u.drop (escL u).2 := by rw [Nat.add_comm, List.drop_succ_cons]
                rw [hd]
                refine c20_1 (s.length + 8) (u.drop (escL u).2) ([] ++ [(escL u).1]) h' (by rw [List.length_drop]; omega) (by rw [List.length_drop]; simp; omega) hb' ?_
                intro h2
                rw [eb, bodyL_fuel N (s.length + 8) (u.drop (escL u).2) (by rw [List.length_drop]; omega) (by rw [List.length_drop]; omega)]; rfl
              · have e3 : ¬ 0 < (escL u).2 := of_decide_eq_false e3
                rw [if_pos (by omega)] at eb
                show AV.tuple _ = _
                rw [eb]; rfl
  · refine cnd_t rfl ?_
    refine bad _ ?_
    rw [Bool.or_eq_true] at e
    rcases e with e | e
    · have e : ¬ (lettersL s).2 = true := by simpa using e
      exact if_neg e
    · have e : (s.drop (lettersL s).1.length).length < 2 := of_decide_eq_true e
      unfold bytL
      by_cases h : (lettersL s).2 = true
      · rw [if_pos h]
        revert e
        generalize s.drop (lettersL s).1.length = t
        intro e
        match t, e with
        | [], _ => rfl
        | [_], _ => rfl
        | _ :: _ :: _, e => exact absurd e (by simp)
      · exact if_neg h
end Go.Den

