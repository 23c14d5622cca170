/-
  A part of the proof: the document's own answer on what stands between quotes.
-/
import Derived.Test.YtdpnnajfmkpfjaaDoorTxta
namespace Go.Den
open Go.RowKit
set_option maxRecDepth 100000
/-! ### Letters -/
def aheadT (q : UInt8) (s p : List UInt8) : Bool := decide (p.length + 2 ≤ s.length) && decide (s.take p.length = p) && decide ((s.drop p.length).head? = some q) && decide (s.getLast? = some q)
def aheadF (q : UInt8) (s : List UInt8) : List (List UInt8) → Option Nat
  | [] => none
  | p :: ps => if aheadT q s p = true then some p.length else aheadF q s ps
noncomputable def optI (o : Option Nat) : AV := match o with
  | some n => .int .i64 (Int.ofNat n)
  | none => .int .i64 (Int.negSucc 0)
theorem c46_1 {s : List UInt8} {q : UInt8} {b : P} {h : H} {k : KV} (hl : s.length ≤ 1099511627776) (ha : h.at b = .row T5b 5 0 9 true) : ∀ (n i : Nat), 5 - i < n → i ≤ 5 → k (optI (aheadF q s (prefs.drop i))) h → (r46 W1 k n).a1 s.length (enc s) (Int.ofNat q.toNat) (.slice b 0 5 1 true) (Int.ofNat i) h
  | 0, _, hn, _, _ => absurd hn (Nat.not_lt_zero _)
  | n + 1, i, hn, hi, hk => by
    refine j46_1 ?_
    unfold s46_1
    rw [lenV_sl, ilt]
    refine cnd_i (fun e => ?_) (fun e => ?_)
    · have e : i < 5 := of_decide_eq_true e
      rw [natI_eq]
      refine pick5b ha e fun t rest h1 h2 => ?_
      have htl : t.length ≤ 2 := (show ∀ t ∈ prefs, t.length ≤ 2 by decide) t (List.drop_subset i prefs (by rw [h1]; simp))
      rw [h1] at hk
      rw [iaddN, wrapN (by omega), fI_eq]
      have fin : cnd (aheadT q s t) (k (.int .i64 (Int.ofNat t.length)) h) (fI (wrap .i64 (iadd (Int.ofNat i) (Int.ofNat 1))) fun n30 => (r46 W1 k n).a1 s.length (enc s) (Int.ofNat q.toNat) (.slice b 0 5 1 true) n30 h) := by
        refine cnd_i (fun e2 => ?_) (fun e2 => ?_)
        · rw [show aheadF q s (t :: rest) = some t.length from if_pos e2] at hk
          exact hk
        · rw [iadd1 (by omega), fI_eq]
          rw [show aheadF q s (t :: rest) = aheadF q s rest from if_neg (by rw [e2]; simp), h2] at hk
          exact c46_1 hl ha n (i + 1) (by omega) e hk
      rw [ile]
      by_cases e1 : t.length + 2 ≤ s.length
      · have hh : (s.drop t.length).head? = some (s[t.length]'(by omega)) := by rw [List.drop_eq_getElem_cons (by omega)]; rfl
        have hlast : s.getLast? = some (s[s.length - 1]'(by omega)) := by rw [List.getLast?_eq_getElem?, List.getElem?_eq_getElem (by omega)]
        have ea : aheadT q s t = (decide (s.take t.length = t) && decide ((s[t.length]'(by omega)) = q) && decide ((s[s.length - 1]'(by omega)) = q)) := by
          unfold aheadT
          rw [decide_eq_true e1, hh, hlast, Bool.true_and]
          congr 1
          · congr 1; rw [Bool.eq_iff_iff, decide_eq_true_eq, decide_eq_true_eq, Option.some.injEq]
          · rw [Bool.eq_iff_iff, decide_eq_true_eq, decide_eq_true_eq, Option.some.injEq]
        rw [ea] at fin
        rw [decide_eq_true e1]
        refine and_q (b := decide (s.take t.length = t)) (fun k' hk' => ?_) ?_
        · refine cutS_t (by omega) ?_
          rw [natI_eq]
          refine pick5b ha e fun t' rest' h1' h2' => ?_
          rw [h1] at h1'
          cases h1'
          rw [strEq_enc]; exact hk'
        rw [Bool.true_and]
        refine and_q (b := decide ((s[t.length]'(by omega)) = q)) (fun k' hk' => ?_) ?_
        · refine idxS_i (by omega) ?_
          rw [ieqB]; exact hk'
        refine and_q (b := decide ((s[s.length - 1]'(by omega)) = q)) (fun k' hk' => ?_) ?_
        · rw [isub1 (by omega) (by omega), fI_eq, natI_eq]
          refine idxS_i (by omega) ?_
          rw [ieqB]; exact hk'
        exact fin
      · have ea : aheadT q s t = false := by unfold aheadT; rw [decide_eq_false e1]; rfl
        rw [ea] at fin
        rw [decide_eq_false e1]
        refine and_i (fun e => by cases e) (fun _ => ?_)
        refine and_i (fun e => by cases e) (fun _ => ?_)
        refine and_i (fun e => by cases e) (fun _ => ?_)
        exact fin
    · have e : i = 5 := by
        have : ¬ i < 5 := of_decide_eq_false e
        omega
      subst e
      exact hk
theorem c46 (s : List UInt8) (q : UInt8) (hl : s.length ≤ 1099511627776) : Pure PP G h0 46 [S s, .int .u8 (Int.ofNat q.toNat)] (optI (aheadF q s prefs)) := by
  refine w46 (n := 10) sw_ok (g46 ?_)
  unfold s46_0
  rw [b5b, oK_some]
  exact c46_1 hl (at_new_same _ _) 9 0 (by decide) (by decide) rfl
def letR (s : List UInt8) : Option (List UInt8 × UInt8) := match aheadF 39 s prefs with
  | some n => some (s.take n, 39)
  | none => match aheadF 34 s prefs with
    | some n => some (s.take n, 34)
    | none => none
noncomputable def letV (o : Option (List UInt8 × UInt8)) : AV := match o with
  | some p => .tuple [S p.1, ub p.2, .bool true]
  | none => .tuple [S [], .int .u8 (Int.ofNat 0), .bool false]
theorem aheadF_some {q : UInt8} {s : List UInt8} {n : Nat} : ∀ ps, aheadF q s ps = some n → ∃ p ∈ ps, n = p.length ∧ aheadT q s p = true
  | [], h => by cases h
  | p :: ps, h => by
    by_cases e : aheadT q s p = true
    · rw [show aheadF q s (p :: ps) = some p.length from if_pos e] at h
      cases h
      exact ⟨p, by simp, rfl, e⟩
    · rw [show aheadF q s (p :: ps) = aheadF q s ps from if_neg e] at h
      obtain ⟨p', h1, h2⟩ := aheadF_some ps h
      exact ⟨p', by simp [h1], h2⟩
theorem aheadF_none {q : UInt8} {s : List UInt8} : ∀ ps, aheadF q s ps = none → ∀ p ∈ ps, aheadT q s p = false
  | [], _, p, hp => absurd hp (by simp)
  | p :: ps, h, p', hp => by
    by_cases e : aheadT q s p = true
    · rw [show aheadF q s (p :: ps) = some p.length from if_pos e] at h; cases h
    · rw [show aheadF q s (p :: ps) = aheadF q s ps from if_neg e] at h
      rcases List.mem_cons.1 hp with rfl | hp
      · simpa using e
      · exact aheadF_none ps h p' hp
theorem optI_plain (o : Option Nat) : plain (optI o) = true := by cases o <;> rfl
theorem are2q : CellsAre (tlist [.int .u8 (Int.ofNat 34)] 1 (tlist [.int .u8 (Int.ofNat 39)] 0 (tlist [.int .u8 (.ofNat 0), .int .u8 (.ofNat 0)] 0 .e))) [39, 34] := by
  intro i hi
  match i, hi with
  | 0, _ => rw [tget_tlist, if_neg (by simp), tget_tlist]; rfl
  | 1, _ => rw [tget_tlist]; rfl
theorem bld2q (h : H) : withElem env 37 (fun e ei => exBuildSlice 2 [(0, (.int .u8 (Int.ofNat 39))), (1, (.int .u8 (Int.ofNat 34)))] h e ei) = some (.slice h.next 0 2 1 true, h.new (.row (tlist [.int .u8 (Int.ofNat 34)] 1 (tlist [.int .u8 (Int.ofNat 39)] 0 (tlist [.int .u8 (.ofNat 0), .int .u8 (.ofNat 0)] 0 .e))) 2 0 TB true)) := by kernel_rfl
theorem c30_i {s : List UInt8} {b : P} {h : H} {t : Tm} {k : KV} {n i : Nat} (hl : s.length ≤ 1099511627776) (ha : h.at b = .row t 2 0 TB true) (hc : CellsAre t [39, 34]) (hi : i < [39, 34].length)
    (h1 : ∀ m, aheadF ([39, 34][i]) s prefs = some m → k (.tuple [S (s.take m), ub ([39, 34][i]), .bool true]) h) (h2 : aheadF ([39, 34][i]) s prefs = none → (r30 W1 k n).a1 s.length (enc s) (.slice b 0 2 1 true) (Int.ofNat (i + 1)) h) :
    (r30 W1 k (n + 1)).a1 s.length (enc s) (.slice b 0 2 1 true) (Int.ofNat i) h := by
  have hi2 : i < 2 := hi
  refine j30_1 ?_
  unfold s30_1
  rw [ilt]
  refine cnd_t (decide_eq_true hi2) ?_
  rw [natI_eq]
  refine row_get (l := [39, 34]) ha (Nat.le_refl 2) hc hi rfl ?_
  rw [asI_u]
  refine use2 (c46 s _ hl) ?_ rfl (optI_plain _)
  cases e : aheadF ([39, 34][i]) s prefs with
  | none =>
    show asI .i64 (.int .i64 (Int.negSucc 0)) _
    rw [asI_k]
    refine cnd_f (by rw [ible_eq]; rfl) ?_
    rw [iadd1 (by omega), fI_eq]
    exact h2 e
  | some m =>
    show asI .i64 (.int .i64 (Int.ofNat m)) _
    obtain ⟨p, hp, rfl, hT⟩ := aheadF_some prefs e
    have hle : p.length ≤ s.length := by
      unfold aheadT at hT
      simp only [Bool.and_eq_true, decide_eq_true_eq] at hT
      have := hT.1.1.1
      omega
    rw [asI_k, ile]
    refine cnd_t (decide_eq_true (Nat.zero_le _)) ?_
    rw [natI_eq]
    refine cutS_t hle ?_
    rw [natI_eq]
    refine row_get (l := [39, 34]) ha (Nat.le_refl 2) hc hi rfl ?_
    rw [asI_u]
    exact h1 _ e
theorem c30 (s : List UInt8) (hl : s.length ≤ 1099511627776) : Pure PP G h0 30 [S s] (letV (letR s)) := by
  refine w30 (n := 5) sw_ok (g30 ?_)
  unfold s30_0
  rw [bld2q, oK_some]
  refine c30_i (i := 0) hl (at_new_same _ _) are2q (by decide) (fun m e => ?_) (fun e => ?_)
  · show AV.tuple _ = _
    unfold letR
    rw [show aheadF 39 s prefs = some m from e]; rfl
  · refine c30_i (i := 1) hl (at_new_same _ _) are2q (by decide) (fun m e2 => ?_) (fun e2 => ?_)
    · show AV.tuple _ = _
      unfold letR
      rw [show aheadF 39 s prefs = none from e, show aheadF 34 s prefs = some m from e2]; rfl
    · refine j30_1 ?_
      unfold s30_1
      refine cnd_f (by rw [ilt]; rfl) ?_
      show AV.tuple _ = _
      unfold letR
      rw [show aheadF 39 s prefs = none from e, show aheadF 34 s prefs = none from e2]; rfl
/-- the letters, as the code has them -/
theorem prefs_noq : ∀ p ∈ prefs, ∀ x ∈ p, x ≠ 34 ∧ x ≠ 39 := by decide
theorem pref_uni {s p1 p2 : List UInt8} (h1 : s.take p1.length = p1) (q1 : quoteAt (s.drop p1.length) = true) (hp2 : p2 ∈ prefs) (h2 : s.take p2.length = p2) : ¬ p1.length < p2.length := by
  intro hlt
  cases hd : s.drop p1.length with
  | nil => rw [hd] at q1; cases q1
  | cons c r =>
    rw [hd] at q1
    have hc : c = 34 ∨ c = 39 := by simpa [quoteAt] using q1
    have hs : s[p1.length]? = some c := by rw [← List.head?_drop, hd]; rfl
    have h3 : p2[p1.length]? = some c := by rw [← h2, List.getElem?_take_of_lt hlt]; exact hs
    have := prefs_noq p2 hp2 c (List.mem_of_getElem? h3)
    rcases hc with rfl | rfl
    · exact this.1 rfl
    · exact this.2 rfl
theorem lettersF_mem (s : List UInt8) : ∀ ps, (lettersF ps s).2 = true → (lettersF ps s).1 ∈ ps
  | [], h => by cases h
  | p :: ps, h => by
    by_cases e : (decide (s.take p.length = p) && quoteAt (s.drop p.length)) = true
    · rw [show lettersF (p :: ps) s = (p, true) from if_pos e]; simp
    · rw [show lettersF (p :: ps) s = lettersF ps s from if_neg e] at h ⊢
      exact List.mem_cons_of_mem _ (lettersF_mem s ps h)
theorem lettersF_none (s : List UInt8) : ∀ ps, (lettersF ps s).2 = false → ∀ p ∈ ps, ¬ (s.take p.length = p ∧ quoteAt (s.drop p.length) = true)
  | [], _, p, hp => absurd hp (by simp)
  | p :: ps, h, p', hp => by
    by_cases e : (decide (s.take p.length = p) && quoteAt (s.drop p.length)) = true
    · rw [show lettersF (p :: ps) s = (p, true) from if_pos e] at h; cases h
    · rw [show lettersF (p :: ps) s = lettersF ps s from if_neg e] at h
      rcases List.mem_cons.1 hp with rfl | hp
      · simpa using e
      · exact lettersF_none s ps h p' hp
theorem getLast_app {p r : List UInt8} {q : UInt8} (hr : r ≠ []) : (p ++ q :: r).getLast? = r.getLast? := by
  rw [show p ++ q :: r = (p ++ [q]) ++ r by simp, List.getLast?_append, List.getLast?_eq_some_getLast hr]; rfl
theorem aheadT_iff {q : UInt8} {s p : List UInt8} : aheadT q s p = true ↔ ∃ r, s = p ++ q :: r ∧ r ≠ [] ∧ r.getLast? = some q := by
  unfold aheadT
  simp only [Bool.and_eq_true, decide_eq_true_eq]
  constructor
  · rintro ⟨⟨⟨h1, h2⟩, h3⟩, h4⟩
    cases hd : s.drop p.length with
    | nil => rw [hd] at h3; cases h3
    | cons c r =>
      rw [hd] at h3
      cases h3
      have hs : s = p ++ q :: r := by rw [← List.take_append_drop p.length s, h2, hd]
      have hr : r ≠ [] := fun e => by subst e; rw [hs] at h1; simp at h1
      refine ⟨r, hs, hr, ?_⟩
      rw [hs] at h4
      rw [getLast_app hr] at h4
      exact h4
  · rintro ⟨r, rfl, hr, hl⟩
    have : 0 < r.length := List.length_pos_iff.2 hr
    refine ⟨⟨⟨by simp; omega, by rw [List.take_left]⟩, by rw [List.drop_left]; rfl⟩, ?_⟩
    rw [getLast_app hr]; exact hl
/-- what the code needs of the letters -/
theorem letR_some {s p : List UInt8} {q : UInt8} (h : letR s = some (p, q)) : ∃ r, s = p ++ q :: r ∧ r ≠ [] ∧ r.getLast? = some q ∧ lettersL s = (p, true) ∧ (q = 39 ∨ q = 34) := by
  have key : ∀ (q : UInt8) (n : Nat), (q = 39 ∨ q = 34) → aheadF q s prefs = some n → ∃ r, s = s.take n ++ q :: r ∧ r ≠ [] ∧ r.getLast? = some q ∧ lettersL s = (s.take n, true) := by
    intro q n hq e
    obtain ⟨p, hp, rfl, hT⟩ := aheadF_some prefs e
    obtain ⟨r, h1, h2, h3⟩ := aheadT_iff.1 hT
    have htk : s.take p.length = p := by rw [h1, List.take_left]
    have hdr : s.drop p.length = q :: r := by rw [h1, List.drop_left]
    have hqa : quoteAt (s.drop p.length) = true := by rw [hdr]; rcases hq with rfl | rfl <;> rfl
    refine ⟨r, by rw [htk]; exact h1, h2, h3, ?_⟩
    rw [htk]
    cases hl : (lettersL s).2 with
    | false => exact absurd ⟨htk, hqa⟩ (lettersF_none s prefs hl p hp)
    | true =>
      obtain ⟨g1, g2⟩ := lettersF_ok s prefs hl
      have g3 := lettersF_mem s prefs hl
      have n1 := pref_uni g1 g2 hp htk
      have n2 := pref_uni htk hqa g3 g1
      have : (lettersL s).1 = p := by
        have hlen : (lettersF prefs s).1.length = p.length := by omega
        rw [hlen] at g1
        exact g1.symm.trans htk
      rw [← this, ← hl]
  unfold letR at h
  cases e : aheadF 39 s prefs with
  | some n =>
    rw [e] at h; cases h
    obtain ⟨r, h1, h2, h3, h4⟩ := key 39 n (.inl rfl) e
    exact ⟨r, h1, h2, h3, h4, .inl rfl⟩
  | none =>
    rw [e] at h
    cases e2 : aheadF 34 s prefs with
    | none => rw [e2] at h; cases h
    | some n =>
      rw [e2] at h; cases h
      obtain ⟨r, h1, h2, h3, h4⟩ := key 34 n (.inr rfl) e2
      exact ⟨r, h1, h2, h3, h4, .inr rfl⟩
theorem bytL_none {s : List UInt8} (h : letR s = none) : bytL s = none := by
  unfold bytL
  cases hl : (lettersL s).2 with
  | false => rfl
  | true =>
    rw [if_pos rfl]
    obtain ⟨g1, g2⟩ := lettersF_ok s prefs hl
    have g3 := lettersF_mem s prefs hl
    cases hd : s.drop (lettersL s).1.length with
    | nil => rfl
    | cons q r =>
      rw [show s.drop (lettersF prefs s).1.length = q :: r from hd] at g2
      have hq : q = 34 ∨ q = 39 := by simpa [quoteAt] using g2
      show (if r = [] then none else if r.getLast? = some q then bodyL q (r.length + 1) r.dropLast else none) = none
      by_cases hr : r = []
      · rw [if_pos hr]
      · rw [if_neg hr]
        by_cases hlast : r.getLast? = some q
        · exfalso
          have hs : s = (lettersL s).1 ++ q :: r := by
            conv => lhs; rw [← List.take_append_drop (lettersL s).1.length s]
            rw [show s.take (lettersL s).1.length = (lettersL s).1 from g1, hd]
          have hT : aheadT q s (lettersL s).1 = true := aheadT_iff.2 ⟨r, hs, hr, hlast⟩
          unfold letR at h
          rcases hq with rfl | rfl
          · cases e : aheadF 39 s prefs with
            | some n => rw [e] at h; cases h
            | none =>
              rw [e] at h
              cases e2 : aheadF 34 s prefs with
              | some n => rw [e2] at h; cases h
              | none => rw [show aheadT 34 s (lettersL s).1 = false from aheadF_none prefs e2 _ g3] at hT; cases hT
          · cases e : aheadF 39 s prefs with
            | some n => rw [e] at h; cases h
            | none => rw [show aheadT 39 s (lettersL s).1 = false from aheadF_none prefs e _ g3] at hT; cases hT
        · rw [if_neg hlast]
theorem bytL_some {s p r : List UInt8} {q : UInt8} (hs : s = p ++ q :: r) (hr : r ≠ []) (hlast : r.getLast? = some q) (hl : lettersL s = (p, true)) : bytL s = bodyL q (r.length + 1) r.dropLast := by
  unfold bytL
  rw [hl, if_pos rfl]
  show quotedL (s.drop p.length) = _
  rw [hs, List.drop_left]
  show (if r = [] then none else if r.getLast? = some q then bodyL q (r.length + 1) r.dropLast else none) = _
  rw [if_neg hr, if_pos hlast]
end Go.Den
namespace Go.Den
open Go.RowKit
set_option maxRecDepth 100000
/-! ### The document's escape -/
theorem esc_tab : ∀ i : Fin 11, simpE (escIn[i.1]'i.2) = some (escOut[i.1]'i.2) := by decide
def valR (B v : Nat) (ds : List UInt8) : Nat := ds.foldl (fun v c => (v * B + refV c) % 256) v
theorem hex_dig : ∀ c ∈ hexL, digL (lowB c) = digN c := by decide
theorem val_same {B : Nat} : ∀ (ds : List UInt8) (v w : Nat), (∀ x ∈ ds, x ∈ hexL) → v % 256 = w % 256 → (valF B v (lowS ds)) % 256 = (valR B w ds) % 256
  | [], _, _, _, h => h
  | c :: ds, v, w, hm, h => by
    have hc := hm c (by simp)
    show (valF B ((v * B + digL (lowB c)) &&& 4095) (lowS ds)) % 256 = (valR B ((w * B + refV c) % 256) ds) % 256
    refine val_same ds _ _ (fun x hx => hm x (by simp [hx])) ?_
    rw [hex_dig c hc, (refV_facts c).2.2.2.1 hc, show (4095 : Nat) = 2 ^ 12 - 1 from rfl, Nat.and_two_pow_sub_one_eq_mod, show (2 : Nat) ^ 12 = 4096 from rfl, Nat.mod_mod, Nat.mod_mod_of_dvd _ (show 256 ∣ 4096 by decide)]
    rw [Nat.add_mod, Nat.mul_mod, h, ← Nat.mul_mod, ← Nat.add_mod]
theorem valR_lt {B : Nat} : ∀ (ds : List UInt8) (v : Nat), v < 256 → valR B v ds < 256
  | [], _, h => h
  | _ :: ds, _, _ => valR_lt ds _ (Nat.mod_lt _ (by decide))
theorem c34_2 {s : List UInt8} {B f m : Nat} {k : KV} (hB : B ≤ 16) (hl : s.length ≤ 1099511627776) (hm : f + m ≤ s.length) : ∀ (n j v : Nat), m - j < n → j ≤ m → v < 256 → k (.tuple [.int .u8 (Int.ofNat (valR B v (((s.drop f).take m).drop j))), .int .i64 (Int.ofNat (f + m))]) h0 →
    (r34 W1 k n).a2 s.length (enc s) (Int.ofNat v) (Int.ofNat m) (Int.ofNat B) (Int.ofNat f) (Int.ofNat (f + j)) h0
  | 0, _, _, hn, _, _, _ => absurd hn (Nat.not_lt_zero _)
  | n + 1, j, v, hn, hj, hv, hk => by
    refine j34_2 ?_
    unfold s34_2
    have hlen : ((s.drop f).take m).length = m := by rw [List.length_take, List.length_drop]; omega
    rw [iaddN, wrapN (by omega), fI_eq, ilt]
    by_cases e : j < m
    · refine cnd_t (decide_eq_true (by omega)) ?_
      have hd : ((s.drop f).take m).drop j = s[f + j] :: ((s.drop f).take m).drop (j + 1) := by
        rw [List.drop_eq_getElem_cons (by omega)]
        congr 1
        rw [List.getElem_take, List.getElem_drop]
      have hvB : v * B ≤ 256 * 16 := Nat.mul_le_mul (by omega) hB
      have h100 := (refV_facts s[f + j]).2.2.2.2
      rw [show Int.ofNat v * Int.ofNat B = Int.ofNat (v * B) from rfl, wrapN (by omega), fI_eq, natI_eq]
      refine idxS_i (by omega) ?_
      refine use2 (c27 _) ?_
      rw [asI_k, iaddN, wrapN (by omega), fI_eq, remN (by decide), iadd1 (by omega), fI_eq]
      refine c34_2 hB hl hm n (j + 1) _ (by omega) e (Nat.mod_lt _ (by decide)) ?_
      rw [hd] at hk
      exact hk
    · have ej : j = m := by omega
      subst ej
      refine cnd_f (decide_eq_false (by omega)) ?_
      have hd : ((s.drop f).take j).drop j = [] := by rw [List.drop_eq_nil_iff]; omega
      rw [hd] at hk
      rw [wrap8 hv, fI_eq, fI_eq]
      exact hk
theorem c34_3 {s set : List UInt8} {B f m n : Nat} (b : Base B set) (hl : s.length ≤ 1099511627776) (hm : m ≤ runL (s.drop f) set) (hf : f ≤ s.length) (hn : s.length + 2 ≤ n) {k : KV} (hk : k (.tuple [ub (numE s (f + m) f B).1, .int .i64 (Int.ofNat (numE s (f + m) f B).2)]) h0) : (r34 W1 k (n + 1)).a3 s.length (enc s) (Int.ofNat 0) (Int.ofNat m) (Int.ofNat B) (Int.ofNat f) h0 := by
  refine j34_3 ?_
  unfold s34_3
  have hr := runL_le (s.drop f) set
  have hdl : (s.drop f).length = s.length - f := List.length_drop
  rw [ieqN]
  unfold numE at hk
  refine cnd_i (fun e => ?_) (fun e => ?_)
  · have e : m = 0 := of_decide_eq_true e
    rw [if_pos (by omega)] at hk
    exact hk
  · have e : ¬ m = 0 := of_decide_eq_false e
    rw [if_neg (by omega)] at hk
    have hB := b.two
    refine c34_2 (f := f) hB.2 hl (by omega) n 0 0 (by omega) (Nat.zero_le _) (by decide) ?_
    rw [List.drop_zero]
    have hmem : ∀ x ∈ (s.drop f).take m, x ∈ hexL := fun x hx => b.hex x (run_mem hm hx)
    have e1 : f + m - f = m := by omega
    rw [e1] at hk
    have e2 : (UInt8.ofNat (valF B 0 (lowS ((s.drop f).take m)))).toNat = valR B 0 ((s.drop f).take m) := by
      have h1 := val_same (B := B) ((s.drop f).take m) 0 0 hmem rfl
      have h2 := valR_lt (B := B) ((s.drop f).take m) 0 (by decide)
      have h3 : (UInt8.ofNat (valF B 0 (lowS ((s.drop f).take m)))).toNat = valF B 0 (lowS ((s.drop f).take m)) % 256 := by simp
      rw [h3, h1, Nat.mod_eq_of_lt h2]
    have hk : k (.tuple [.int .u8 (Int.ofNat (UInt8.ofNat (valF B 0 (lowS ((s.drop f).take m)))).toNat), .int .i64 (Int.ofNat (f + m))]) h0 := hk
    rw [e2] at hk
    exact hk
theorem c34_1 {s : List UInt8} {k : KV} (hl : s.length ≤ 1099511627776) (hk : k (.tuple [ub (escL s).1, .int .i64 (Int.ofNat (escL s).2)]) h0) : ∀ (n i : Nat), 11 - i + s.length + 5 ≤ n → i ≤ 11 → (∀ c r, s = c :: r → c ∉ escIn.take i) → (r34 W1 k n).a1 s.length (enc s) (Int.ofNat i) h0
  | 0, _, hn, _, _ => absurd hn (by omega)
  | n + 1, i, hn, hi, hp => by
    refine j34_1 ?_
    unfold s34_1
    rw [ilt]
    by_cases e : i < 11
    · refine cnd_t (decide_eq_true e) ?_
      have he : i < escIn.length := e
      cases s with
      | nil =>
        refine and_i (fun e => by cases e) (fun _ => ?_)
        refine cnd_f rfl ?_
        rw [iadd1 (by omega), fI_eq]
        exact c34_1 hl hk n (i + 1) (by omega) e fun c r h => by cases h
      | cons c r =>
        refine and_i (fun _ => ?_) (fun e => by rw [ilt] at e; simp at e)
        refine idxS_i (s := c :: r) (Nat.zero_lt_succ _) ?_
        rw [natI_eq]
        refine idxS_i (s := escIn) he ?_
        rw [List.getElem_cons_zero, ieqB]
        refine cnd_i (fun e2 => ?_) (fun e2 => ?_)
        · have e2 : c = escIn[i] := of_decide_eq_true e2
          rw [natI_eq]
          refine idxS_i (s := escOut) (show i < 11 from e) ?_
          have hs : simpE c = some (escOut[i]'(show i < 11 from e)) := by rw [e2]; exact esc_tab ⟨i, e⟩
          have ee : escL (c :: r) = (escOut[i]'(show i < 11 from e), 1) := by
            show (match simpE c with | some y => (y, 1) | none => _ : UInt8 × Nat) = _
            rw [hs]
          rw [ee] at hk
          exact hk
        · have e2 : ¬ c = escIn[i] := of_decide_eq_false e2
          rw [iadd1 (by omega), fI_eq]
          refine c34_1 hl hk n (i + 1) (by omega) e fun c' r' h => ?_
          cases h
          have hp := hp c r rfl
          rw [List.take_add_one, List.getElem?_eq_getElem he]
          simp only [Option.toList_some, List.mem_append, List.mem_singleton, not_or]
          exact ⟨hp, e2⟩
    · have ei : i = 11 := by omega
      subst ei
      refine cnd_f rfl ?_
      refine use2 (c26 (.inl ⟨rfl, rfl⟩) s 0 (Nat.zero_le _) hl) ?_
      rw [List.drop_zero, asI_k, min3, oK_some, asI_k]
      obtain ⟨n, rfl⟩ : ∃ n', n = n' + 1 := ⟨n - 1, by omega⟩
      cases s with
      | nil =>
        refine and_i (fun e => by cases e) (fun _ => ?_)
        refine cnd_f rfl ?_
        refine c34_3 (s := []) (f := 0) (B := 8) (.inl ⟨rfl, rfl⟩) hl (Nat.min_le_left _ _) (Nat.zero_le _) (by simp; omega) ?_
        exact hk
      | cons c r =>
        have hin : c ∉ escIn := by have := hp c r rfl; exact this
        refine and_i (fun _ => ?_) (fun e => by rw [ilt] at e; simp at e)
        refine idxS_i (s := c :: r) (Nat.zero_lt_succ _) ?_
        rw [List.getElem_cons_zero, toNat_eq _ 120 (by decide)]
        have ee : escL (c :: r) = if c = 120 then numE (c :: r) (1 + runL r hexL) 1 16 else numE (c :: r) (min (runL (c :: r) octL) 3) 0 8 := by
          show (match simpE c with | some y => (y, 1) | none => _ : UInt8 × Nat) = _
          rw [simp_out hin]
        refine cnd_i (fun e2 => ?_) (fun e2 => ?_)
        · have e2 : c = 120 := of_decide_eq_true e2
          rw [ee, if_pos e2] at hk
          refine use2 (c26 (.inr (.inr ⟨rfl, rfl⟩)) (c :: r) 1 (by simp) hl) ?_
          rw [asI_k]
          exact c34_3 (s := c :: r) (f := 1) (B := 16) (.inr (.inr ⟨rfl, rfl⟩)) hl (Nat.le_refl _) (by simp) (by omega) hk
        · have e2 : ¬ c = 120 := of_decide_eq_false e2
          rw [ee, if_neg e2] at hk
          refine c34_3 (s := c :: r) (f := 0) (B := 8) (.inl ⟨rfl, rfl⟩) hl (Nat.min_le_left _ _) (Nat.zero_le _) (by omega) ?_
          rw [Nat.zero_add]; exact hk
theorem c34 (s : List UInt8) (hl : s.length ≤ 1099511627776) : Pure PP G h0 34 [S s] (.tuple [ub (escL s).1, .int .i64 (Int.ofNat (escL s).2)]) := by
  refine w34 (n := s.length + 30) sw_ok (g34 ?_)
  unfold s34_0
  exact c34_1 hl rfl _ 0 (by omega) (by omega) fun c r _ => by simp
/-! ### The document's Bytes -/
theorem Buf.str {g : Bool} {h : H} {v : AV} {l : List UInt8} (hb : Buf g h v l) : convA env h 37 9 v = some (S l, h) := by
  rcases hb with ⟨rfl, rfl⟩ | ⟨q, t, m, z, w, rfl, h1, h2, h3, h4, h5, _⟩
  · rw [cv37]
    show convNil env 37 h = _
    kernel_rfl
  · exact conv_row h2 h3 h5
theorem app1 {g : Bool} {h : H} {v : AV} {l : List UInt8} {x : UInt8} (hb : Buf g h v l) (hl : l.length + 1 ≤ 1099511627776) {K : KV} (hk : ∀ v' h', Buf false h' v' (l ++ [x]) → K v' h') :
    oK (builtinA env .append [37, 37] [v, .slice h.next 0 1 1 true] (h.new (.row (T1 (Int.ofNat x.toNat)) 1 0 TB true))) K := by
  have hx : cellsOfArg (h.new (.row (T1 (Int.ofNat x.toNat)) 1 0 TB true)) 1 (.slice h.next 0 1 1 true) = some ([x].length, ubs [x]) := by
    show (Option.rec none (fun cs => some (1, cs)) ((h.new (.row (T1 (Int.ofNat x.toNat)) 1 0 TB true)).read h.next 0 1) : Option (Nat × List AV)) = _
    have hr : (h.new (.row (T1 (Int.ofNat x.toNat)) 1 0 TB true)).read h.next 0 1 = some (ubs [x]) := by
      show Hp.readK _ _ _ _ _ _ = _
      unfold Hp.readK
      rw [at_new_same]
      kernel_rfl
    rw [hr]; rfl
  obtain ⟨v', h3, e3, b3, _, _⟩ := app_b (hb.mono (Keeps.new (o := .row (T1 (Int.ofNat x.toNat)) 1 0 TB true))) hx (by simp) hl
  rw [app37, e3, oK_some]
  exact hk v' h3 b3
theorem c14_1 {q : UInt8} {s : List UInt8} {k : KV} (hl : s.length ≤ 549755813888) : ∀ (n i m : Nat) (acc : List UInt8) (v : AV) (h : H), 2 * (s.length - i) + 2 ≤ n → i ≤ s.length → s.length - i < m → acc.length + (s.length - i) ≤ 549755813888 → Buf false h v acc → (∀ h', k (bytV ((bodyL q m (s.drop i)).map (acc ++ ·))) h') →
    (r14 W1 k n).a1 (Int.ofNat q.toNat) s.length (enc s) v (Int.ofNat i) h
  | 0, _, _, _, _, _, hn, _, _, _, _, _ => absurd hn (by omega)
  | n + 1, i, m, acc, v, h, hn, hi, hm, ha, hb, hk => by
    refine j14_1 ?_
    unfold s14_1
    rw [ilt]
    obtain ⟨m, rfl⟩ : ∃ m', m = m' + 1 := ⟨m - 1, by omega⟩
    have mm : ∀ (x : UInt8) (o : Option (List UInt8)), (o.map (x :: ·)).map (acc ++ ·) = o.map ((acc ++ [x]) ++ ·) := by
      intro x o
      cases o with
      | none => rfl
      | some l => simp
    by_cases e : i < s.length
    · refine cnd_t (decide_eq_true e) ?_
      obtain ⟨n, rfl⟩ : ∃ n', n = n' + 1 := ⟨n - 1, by omega⟩
      have hd : s.drop i = s[i] :: s.drop (i + 1) := List.drop_eq_getElem_cons e
      have eb : bodyL q (m + 1) (s.drop i) = if s[i] = q then none else if s[i] = 92 then (if (escL (s.drop (i + 1))).2 = 0 then none else (bodyL q m ((s.drop (i + 1)).drop (escL (s.drop (i + 1))).2)).map ((escL (s.drop (i + 1))).1 :: ·)) else (bodyL q m (s.drop (i + 1))).map (s[i] :: ·) := by rw [hd]; rfl
      rw [eb] at hk
      rw [natI_eq]
      refine idxS_i e ?_
      rw [ieqB]
      refine cnd_i (fun e1 => ?_) (fun e1 => ?_)
      · have e1 : s[i] = q := of_decide_eq_true e1
        rw [if_pos e1] at hk
        exact hk h
      · have e1 : ¬ s[i] = q := of_decide_eq_false e1
        rw [if_neg e1] at hk
        rw [toNat_eq _ 92 (by decide)]
        refine cnd_i (fun e2 => ?_) (fun e2 => ?_)
        · have e2 : s[i] = 92 := of_decide_eq_true e2
          rw [if_pos e2] at hk
          rw [iadd1 (by omega), fI_eq, natI_eq]
          refine cutS_d (by omega) ?_
          have hle := escL_le (s.drop (i + 1))
          rw [List.length_drop] at hle
          refine use2 (c34 _ (by rw [List.length_drop]; omega)) ?_
          rw [ext_0, asI_u, ext_1, asI_k, ieqN]
          refine cnd_i (fun e3 => ?_) (fun e3 => ?_)
          · have e3 := of_decide_eq_true e3
            rw [if_pos e3] at hk
            exact hk h
          · have e3 := of_decide_eq_false e3
            rw [if_neg e3] at hk
            rw [bld1, oK_some]
            refine app1 hb (by omega) fun v' h' hb' => ?_
            rw [iaddN, wrapN (by omega), fI_eq]
            refine j14_2 ?_
            unfold s14_2
            rw [iadd1 (by omega), fI_eq]
            refine c14_1 hl n _ m (acc ++ [(escL (s.drop (i + 1))).1]) v' h' (by omega) (by omega) (by omega) (by rw [List.length_append, List.length_singleton]; omega) hb' fun h2 => ?_
            have := hk h2
            rw [mm, List.drop_drop] at this
            rw [show i + (escL (s.drop (i + 1))).2 + 1 = i + 1 + (escL (s.drop (i + 1))).2 by omega]
            exact this
        · have e2 : ¬ s[i] = 92 := of_decide_eq_false e2
          rw [if_neg e2] at hk
          rw [natI_eq]
          refine idxS_i e ?_
          rw [bld1, oK_some]
          refine app1 hb (by omega) fun v' h' hb' => ?_
          refine j14_2 ?_
          unfold s14_2
          rw [iadd1 (by omega), fI_eq]
          refine c14_1 hl n (i + 1) m (acc ++ [s[i]]) v' h' (by omega) e (by omega) (by rw [List.length_append, List.length_singleton]; omega) hb' fun h2 => ?_
          have := hk h2
          rw [mm] at this
          exact this
    · refine cnd_f (decide_eq_false e) ?_
      have hd : s.drop i = [] := by rw [List.drop_eq_nil_iff]; omega
      rw [hb.str, oK_some, asS_s]
      have := hk h
      rw [hd, show (bodyL q (m + 1) []).map (acc ++ ·) = some acc by show some (acc ++ []) = _; rw [List.append_nil]] at this
      exact this
theorem plain_letV (o : Option (List UInt8 × UInt8)) : plain (letV o) = true := by cases o <;> rfl
theorem c14 (s : List UInt8) (hl : s.length ≤ 549755813888) : Pure PP G h0 14 [S s] (bytV (bytL s)) := by
  refine w14 (n := 2 * s.length + 10) sw_ok (g14 ?_)
  unfold s14_0
  refine use2 (c30 s (by omega)) ?_ rfl (plain_letV _)
  cases e : letR s with
  | none =>
    rw [show letV none = .tuple [S [], .int .u8 (Int.ofNat 0), .bool false] from rfl, ext_0, asS_s, ext_1, asI_k, ext_2, asB_b]
    refine cnd_t rfl ?_
    show AV.tuple _ = _
    rw [bytL_none e]; rfl
  | some p =>
    obtain ⟨p, q⟩ := p
    obtain ⟨r, h1, h2, h3, h4, _⟩ := letR_some e
    have hb := bytL_some h1 h2 h3 h4
    have hrl : 0 < r.length := List.length_pos_iff.2 h2
    have hsl : s.length = p.length + (r.length + 1) := by rw [h1]; simp
    rw [show letV (some (p, q)) = .tuple [S p, ub q, .bool true] from rfl, ext_0, asS_s, ext_1, asI_u, ext_2, asB_b]
    refine cnd_f rfl ?_
    rw [iadd1 (by omega), fI_eq, isub1 (by omega) (by omega), fI_eq, natI_eq, natI_eq]
    refine cutS_i (by omega) (by omega) ?_
    have hcut : (s.drop (p.length + 1)).take (s.length - 1 - (p.length + 1)) = r.dropLast := by
      rw [h1, show p ++ q :: r = (p ++ [q]) ++ r by simp, show p.length + 1 = (p ++ [q]).length by simp, List.drop_left, List.dropLast_eq_take]
      congr 1
      simp; omega
    rw [hcut]
    have hdl : r.dropLast.length = r.length - 1 := List.length_dropLast
    refine c14_1 (q := q) (by omega) _ 0 (r.length + 1) [] .nils h0 (by omega) (Nat.zero_le _) (by omega) (by simp; omega) (.inl ⟨rfl, rfl⟩) fun h' => ?_
    rw [List.drop_zero, hb]
    show bytV ((bodyL q (r.length + 1) r.dropLast).map fun x => x) = _
    rw [Option.map_id']
end Go.Den
namespace Go.Den
open Go.RowKit
set_option maxRecDepth 100000
/-! ### The document's Char -/
theorem or_add {x b : Nat} (hb : b < 256) : (x * 256 % 4294967296) ||| b = (x * 256 + b) % 4294967296 := by
  have h1 : x * 256 % 4294967296 = 2 ^ 8 * (x % 16777216) := by
    rw [show (4294967296 : Nat) = 16777216 * 256 by decide, Nat.mul_mod_mul_right, Nat.mul_comm]
  have h2 := Nat.two_pow_add_eq_or_of_lt (i := 8) (b := b) hb (x % 16777216)
  rw [h1, ← h2]
  show 256 * (x % 16777216) + b = _
  omega
def valC (v : Nat) (l : List UInt8) : Nat := l.foldl (fun v b => (v * 256 + b.toNat) % 4294967296) v
theorem valC_same : ∀ (l : List UInt8) (v : Nat), allF v l = valC v l
  | [], _ => rfl
  | b :: l, v => by
    show allF ((v * 256 % 4294967296) ||| b.toNat) l = valC ((v * 256 + b.toNat) % 4294967296) l
    rw [or_add b.toNat_lt, valC_same l]
theorem valC_lt : ∀ (l : List UInt8) (v : Nat), v < 4294967296 → valC v l < 4294967296
  | [], _, h => h
  | _ :: l, _, _ => valC_lt l _ (Nat.mod_lt _ (by decide))
theorem wrap_i8 {n : Nat} (h : n < 256) : wrap .i8 (Int.ofNat n) = if 127 < n then (n : Int) - 256 else (n : Int) := by
  rw [wrap_eq]
  by_cases h1 : 127 < n
  · rw [if_pos h1]
    simp [IntKind.wrap, IntKind.bits, IntKind.signed]
    omega
  · rw [if_neg h1]
    simp [IntKind.wrap, IntKind.bits, IntKind.signed]
    omega
theorem wrap_i32 {n : Nat} (h : n < 4294967296) : wrap .i32 (Int.ofNat n) = if 2147483648 ≤ n then (n : Int) - 4294967296 else (n : Int) := by
  rw [wrap_eq]
  by_cases h1 : 2147483648 ≤ n
  · rw [if_pos h1]
    simp [IntKind.wrap, IntKind.bits, IntKind.signed]
    omega
  · rw [if_neg h1]
    simp [IntKind.wrap, IntKind.bits, IntKind.signed]
    omega
theorem c12_2 {p : P} {h : H} {t : Tm} {L : List UInt8} {n : Int} {m : Nat} {k : KV} (ha : h.at p = .row t 2 0 28 true) (hk : ∀ h', k (.tuple [.agg [.int .u64 (wrap .u64 n), .bool (decide (L = [117]) || decide (L = [85]))], .bool true]) h') : (r12 W1 k (m + 1)).a2 (.ptr p 0) L.length (enc L) n h := by
  refine j12_2 ?_
  unfold s12_2
  rw [fI_eq]
  refine or_b ?_
  rw [eq117, eq85, b28v, oK_some]
  exact put2 ha hk
theorem c12_1 {p : P} {h : H} {t : Tm} {L l : List UInt8} {k : KV} (ha : h.at p = .row t 2 0 28 true) (hl : l.length ≤ 1000) (hk : ∀ h', k (.tuple [.agg [.int .u64 (wrap .u64 (wrap .i64 (wrap .i32 (Int.ofNat (valC 0 l))))), .bool (decide (L = [117]) || decide (L = [85]))], .bool true]) h') : ∀ (n i v : Nat), l.length - i + 2 ≤ n → i ≤ l.length → v < 4294967296 → valC v (l.drop i) = valC 0 l →
    (r12 W1 k n).a1 (.ptr p 0) L.length (enc L) l.length (enc l) (Int.ofNat v) (Int.ofNat i) h
  | 0, _, _, hn, _, _, _ => absurd hn (by omega)
  | n + 1, i, v, hn, hi, hv, hu => by
    refine j12_1 ?_
    unfold s12_1
    rw [ilt]
    by_cases e : i < l.length
    · refine cnd_t (decide_eq_true e) ?_
      have hd : l.drop i = l[i] :: l.drop (i + 1) := List.drop_eq_getElem_cons e
      have hx := (l[i]).toNat_lt
      rw [show Int.ofNat v * Int.ofNat 256 = Int.ofNat (v * 256) from rfl, wrapN (by omega), fI_eq, natI_eq]
      refine idxS_i e ?_
      rw [wrapN (by omega), fI_eq, iaddN, wrapN (by omega), fI_eq, remN (by decide), iadd1 (by omega), fI_eq]
      rw [hd] at hu
      exact c12_1 ha hl hk n (i + 1) _ (by omega) e (Nat.mod_lt _ (by decide)) hu
    · refine cnd_f (decide_eq_false e) ?_
      have hd : l.drop i = [] := by rw [List.drop_eq_nil_iff]; omega
      rw [hd] at hu
      have hu : v = valC 0 l := hu
      obtain ⟨n, rfl⟩ : ∃ n', n = n' + 1 := ⟨n - 1, by omega⟩
      rw [← hu, wrap_i32 hv] at hk
      rw [ile]
      refine cnd_i (fun e2 => ?_) (fun e2 => ?_)
      · have e2 : 2147483648 ≤ v := of_decide_eq_true e2
        rw [if_pos e2] at hk
        have e3 : wrap .i64 (isub (Int.ofNat v) (Int.ofNat 4294967296)) = wrap .i64 ((v : Int) - 4294967296) := by rw [isub_eq]; rfl
        rw [e3, fI_eq]
        exact c12_2 ha hk
      · have e2 : ¬ 2147483648 ≤ v := of_decide_eq_false e2
        rw [if_neg e2, wrap64 (by omega) (by omega)] at hk
        exact c12_2 ha hk
theorem charV_num (o : Option (Int × Bool)) : plain (charV o) = true := by cases o <;> rfl
theorem c12 (s : List UInt8) (hl : s.length ≤ 549755813888) : Pure PP G h0 12 [S s] (charV (charL s)) := by
  refine w12 (n := 1100) sw_ok (g12 ?_)
  unfold s12_0
  refine newK_i ?_
  have ha : (h0.new ob28).at h0.next = .row (tlist [.int .u64 (Int.ofNat 0), .bool false] 0 .e) 2 0 28 true := at_new_same _ _
  refine use2 (c30 s (by omega)) ?_ rfl (plain_letV _)
  have plb : plain (bytV (bytL s)) = true := by cases bytL s <;> rfl
  have bad : charL s = none → (oK (exBuild env (env.ty 28) [] (h0.new ob28)) fun v30 h31 =>
      stn 2 (.ptr h0.next 0) v30 h31 fun h32 =>
      ldn 2 (.ptr h0.next 0) h32 fun v33 =>
      (fun v (_ : H) => v = charV (charL s) : KV) (.tuple [v33, (.bool false)]) h32) := by
    intro e
    rw [b28, oK_some]
    refine put2 (k := fun v (_ : H) => v = charV (charL s)) ha fun h' => ?_
    show AV.tuple _ = _
    rw [e]; rfl
  cases e : letR s with
  | none =>
    have hb := bytL_none e
    rw [show letV none = .tuple [S [], .int .u8 (Int.ofNat 0), .bool false] from rfl, ext_0, asS_s, ext_1, asI_k, ext_2, asB_b]
    refine use2 (c14 s hl) ?_ rfl plb
    rw [hb, show bytV none = .tuple [S [], .bool false] from rfl, ext_0, asS_s, ext_1, asB_b]
    refine or_i (fun e => by cases e) (fun _ => ?_)
    refine or_i (fun e => by cases e) (fun _ => ?_)
    refine or_i (fun e => by cases e) (fun _ => ?_)
    refine or_i (fun e => by cases e) (fun _ => ?_)
    refine or_i (fun e => by cases e) (fun _ => ?_)
    refine cnd_t rfl ?_
    exact bad (by unfold charL; rw [hb])
  | some p =>
    obtain ⟨p, q⟩ := p
    obtain ⟨r, h1, h2, h3, h4, _⟩ := letR_some e
    have hhead : (s.drop p.length).head? = some q := by rw [h1, List.drop_left]; rfl
    rw [show letV (some (p, q)) = .tuple [S p, ub q, .bool true] from rfl, ext_0, asS_s, ext_1, asI_u, ext_2, asB_b]
    refine use2 (c14 s hl) ?_ rfl plb
    cases hb : bytL s with
    | none =>
      rw [show bytV none = .tuple [S [], .bool false] from rfl, ext_0, asS_s, ext_1, asB_b]
      refine or_b ?_
      refine or_i (fun e => by cases e) (fun _ => ?_)
      refine or_i (fun e => by cases e) (fun _ => ?_)
      refine or_i (fun e => by cases e) (fun _ => ?_)
      refine or_i (fun e => by cases e) (fun _ => ?_)
      refine cnd_t rfl ?_
      exact bad (by unfold charL; rw [hb])
    | some l =>
      have ec : charL s = if p = [117, 56] ∨ ¬ some q = some 39 ∨ l = [] ∨ 8 < l.length then none else some (wrap .u64 (cvI l), decide (p = [117]) || decide (p = [85])) := by
        unfold charL
        rw [hb, h4, hhead]
      rw [show bytV (some l) = .tuple [S l, .bool true] from rfl, ext_0, asS_s, ext_1, asB_b]
      refine or_b ?_
      refine or_b ?_
      refine or_b ?_
      refine or_b ?_
      refine or_b ?_
      rw [toNat_eq _ 39 (by decide), equ8, ilt, ilt, bnot_eq, bnot_eq]
      refine cnd_i (fun e2 => ?_) (fun e2 => ?_)
      · refine bad ?_
        rw [ec]
        refine if_pos ?_
        simp only [Bool.or_eq_true, Bool.not_eq_true', decide_eq_true_eq, decide_eq_false_iff_not, Bool.not_true, Bool.false_or] at e2
        rcases e2 with ((e2 | e2) | e2) | e2
        · exact .inr (.inl fun h => e2 (Option.some.inj h))
        · exact .inl e2
        · refine .inr (.inr (.inl ?_))
          exact List.eq_nil_of_length_eq_zero (by omega)
        · exact .inr (.inr (.inr e2))
      · simp only [Bool.or_eq_false_iff, Bool.not_eq_false', decide_eq_false_iff_not, decide_eq_true_eq, Bool.not_true, Bool.false_or] at e2
        obtain ⟨⟨⟨e2, e3⟩, e4⟩, e5⟩ := e2
        have hne : l ≠ [] := fun h => e4 (by rw [h]; decide)
        rw [if_neg (by
          rintro (h | h | h | h)
          · exact e3 h
          · exact h (congrArg some e2)
          · exact hne h
          · exact e5 h)] at ec
        have fin : ∀ h', (fun v (_ : H) => v = charV (charL s) : KV) (.tuple [.agg [.int .u64 (wrap .u64 (cvI l)), .bool (decide (p = [117]) || decide (p = [85]))], .bool true]) h' := by
          intro h'
          show AV.tuple _ = _
          rw [ec]; rfl
        rw [ieqN]
        refine cnd_i (fun e6 => ?_) (fun e6 => ?_)
        · have e6 : l.length = 1 := of_decide_eq_true e6
          match l, e6 with
          | [b], _ =>
            have hx := b.toNat_lt
            have ecv : cvI [b] = wrap .i64 (if 127 < b.toNat then (b.toNat : Int) - 256 else (b.toNat : Int)) := by
              rw [← wrap_i8 hx]; rfl
            rw [ecv] at fin
            refine idxS_i (s := [b]) (Nat.zero_lt_succ _) ?_
            rw [List.getElem_cons_zero, wrapN (by omega), fI_eq, ilt]
            refine cnd_i (fun e7 => ?_) (fun e7 => ?_)
            · have e7 : 127 < b.toNat := of_decide_eq_true e7
              rw [if_pos e7] at fin
              have e3 : wrap .i64 (isub (Int.ofNat b.toNat) (Int.ofNat 256)) = wrap .i64 ((b.toNat : Int) - 256) := by rw [isub_eq]; rfl
              rw [e3, fI_eq]
              exact c12_2 ha fin
            · have e7 : ¬ 127 < b.toNat := of_decide_eq_false e7
              rw [if_neg e7, wrap64 (by omega) (by omega)] at fin
              exact c12_2 ha fin
        · have e6 : ¬ l.length = 1 := of_decide_eq_false e6
          have hpos : 0 < l.length := List.length_pos_iff.2 hne
          have ecv : cvI l = wrap .i64 (wrap .i32 (Int.ofNat (valC 0 l))) := by
            unfold cvI; rw [if_pos (by omega), valC_same]
          rw [ecv] at fin
          exact c12_1 ha (by omega) fin _ 0 0 (by omega) (Nat.zero_le _) (by decide) rfl
end Go.Den
