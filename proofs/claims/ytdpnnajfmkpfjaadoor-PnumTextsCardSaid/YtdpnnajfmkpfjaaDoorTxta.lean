/-
  A part of the proof: the document's own answer on numbers.
-/
import Derived.Test.YtdpnnajfmkpfjaaDoorNums
namespace Go.Den
open Go.RowKit
set_option maxRecDepth 100000
theorem all8' {P : UInt8 → Bool} (h : (List.range 256).all (fun i => P (UInt8.ofNat i)) = true) (b : UInt8) : P b = true := by
  have := List.all_eq_true.1 h b.toNat (List.mem_range.2 b.toNat_lt)
  rwa [UInt8.ofNat_toNat] at this
def refV (c : UInt8) : Nat := if 48 ≤ c.toNat ∧ c.toNat ≤ 57 then c.toNat - 48 else if 97 ≤ c.toNat ∧ c.toNat ≤ 102 then c.toNat - 87 else if 65 ≤ c.toNat ∧ c.toNat ≤ 70 then c.toNat - 55 else 99
theorem rngK {lo hi x : Nat} {h : H} {k : Bool → H → Prop} (hk : k (decide (lo ≤ x ∧ x ≤ hi)) h) : joinB (fun k6 => gate true (ible (Int.ofNat lo) (Int.ofNat x)) (k6 (ible (Int.ofNat x) (Int.ofNat hi)) h) (k6 false h)) k := by
  refine and_b ?_
  rw [ile, ile]
  have : (decide (lo ≤ x) && decide (x ≤ hi)) = decide (lo ≤ x ∧ x ≤ hi) := by simp
  rw [this]; exact hk
theorem c27 (x : UInt8) : Pure PP G h0 27 [.int .u8 (Int.ofNat x.toNat)] (.int .i64 (Int.ofNat (refV x))) := by
  refine w27 (n := 1) sw_ok (g27 ?_)
  unfold s27_0
  have hx := x.toNat_lt
  refine rngK ?_
  refine cnd_i (fun e => ?_) (fun e => ?_)
  · have e := of_decide_eq_true e
    have : refV x = x.toNat - 48 := if_pos e
    rw [isubN e.1, wrap8 (by omega), fI_eq, wrapN (by omega), fI_eq, this]
  · have e := of_decide_eq_false e
    refine rngK ?_
    refine cnd_i (fun e2 => ?_) (fun e2 => ?_)
    · have e2 := of_decide_eq_true e2
      have : refV x = x.toNat - 97 + 10 := by unfold refV; rw [if_neg e, if_pos e2]; omega
      rw [isubN e2.1, wrap8 (by omega), fI_eq, wrapN (by omega), fI_eq, iaddN, wrapN (by omega), fI_eq, this]
    · have e2 := of_decide_eq_false e2
      refine rngK ?_
      refine cnd_i (fun e3 => ?_) (fun e3 => ?_)
      · have e3 := of_decide_eq_true e3
        have : refV x = x.toNat - 65 + 10 := by unfold refV; rw [if_neg e, if_neg e2, if_pos e3]; omega
        rw [isubN e3.1, wrap8 (by omega), fI_eq, wrapN (by omega), fI_eq, iaddN, wrapN (by omega), fI_eq, this]
      · have e3 := of_decide_eq_false e3
        have : refV x = 99 := by unfold refV; rw [if_neg e, if_neg e2, if_neg e3]
        rw [this]
/-- a base and its digits -/
def Base (B : Nat) (set : List UInt8) : Prop := (B = 8 ∧ set = octL) ∨ (B = 10 ∧ set = decL) ∨ (B = 16 ∧ set = hexL)
theorem refV_facts (x : UInt8) : (refV x < 16 ↔ x ∈ hexL) ∧ (refV x < 10 ↔ x ∈ decL) ∧ (refV x < 8 ↔ x ∈ octL) ∧ (x ∈ hexL → refV x = digN x) ∧ refV x < 100 := by
  have h := all8' (P := fun x => (decide (refV x < 16) == hexL.contains x) && (decide (refV x < 10) == decL.contains x) && (decide (refV x < 8) == octL.contains x) && (!(hexL.contains x) || refV x == digN x) && decide (refV x < 100)) (by kernel_rfl) x
  simp only [Bool.and_eq_true, beq_iff_eq, Bool.or_eq_true, Bool.not_eq_true', decide_eq_true_eq] at h
  obtain ⟨⟨⟨⟨h1, h2⟩, h3⟩, h4⟩, h5⟩ := h
  have tr : ∀ (a : Prop) [Decidable a] (set : List UInt8), decide a = set.contains x → (a ↔ x ∈ set) := fun a _ set h => by
    rw [← List.contains_iff_mem, ← h, decide_eq_true_iff]
  refine ⟨tr _ _ h1, tr _ _ h2, tr _ _ h3, fun hx => ?_, h5⟩
  rcases h4 with h4 | h4
  · rw [← List.contains_iff_mem] at hx; rw [hx] at h4; cases h4
  · exact h4
theorem Base.lt {B : Nat} {set : List UInt8} (b : Base B set) (x : UInt8) : refV x < B ↔ x ∈ set := by
  obtain ⟨h1, h2, h3, _⟩ := refV_facts x
  rcases b with ⟨rfl, rfl⟩ | ⟨rfl, rfl⟩ | ⟨rfl, rfl⟩
  · exact h3
  · exact h2
  · exact h1
theorem dec_hex' : ∀ x ∈ decL, x ∈ hexL := by decide
theorem Base.hex {B : Nat} {set : List UInt8} (b : Base B set) : ∀ x ∈ set, x ∈ hexL := by
  rcases b with ⟨rfl, rfl⟩ | ⟨rfl, rfl⟩ | ⟨rfl, rfl⟩
  · exact oct_hex
  · exact dec_hex'
  · exact fun x h => h
theorem Base.two {B : Nat} {set : List UInt8} (b : Base B set) : 8 ≤ B ∧ B ≤ 16 := by
  rcases b with ⟨rfl, rfl⟩ | ⟨rfl, rfl⟩ | ⟨rfl, rfl⟩ <;> decide
theorem runL_cons {c : UInt8} {r set : List UInt8} (h : c ∈ set) : runL (c :: r) set = runL r set + 1 := by
  unfold runL; rw [List.takeWhile_cons, if_pos (by simpa using h)]; rfl
theorem runL_stop {c : UInt8} {r set : List UInt8} (h : c ∉ set) : runL (c :: r) set = 0 := by
  unfold runL; rw [List.takeWhile_cons, if_neg (by simpa using h)]; rfl
theorem c26_1 {s set : List UInt8} {at' B : Nat} {k : KV} (b : Base B set) (hl : s.length ≤ 1099511627776) : ∀ (n i : Nat), s.length - (at' + i) < n → at' + i ≤ s.length → k (.int .i64 (Int.ofNat (i + runL (s.drop (at' + i)) set))) h0 → (r26 W1 k n).a1 s.length (enc s) (Int.ofNat at') (Int.ofNat B) (Int.ofNat i) h0
  | 0, _, hn, _, _ => absurd hn (Nat.not_lt_zero _)
  | n + 1, i, hn, hi, hk => by
    refine j26_1 ?_
    unfold s26_1
    rw [iaddN, wrapN (by omega), fI_eq, ilt]
    refine and_i (fun e => ?_) (fun e => ?_)
    · have e : at' + i < s.length := of_decide_eq_true e
      have hd : s.drop (at' + i) = s[at' + i] :: s.drop (at' + i + 1) := List.drop_eq_getElem_cons e
      rw [fI_eq, natI_eq]
      refine idxS_i e ?_
      refine use2 (c27 _) ?_
      rw [asI_k, ilt]
      refine cnd_i (fun e2 => ?_) (fun e2 => ?_)
      · have e2 : s[at' + i] ∈ set := (b.lt _).1 (of_decide_eq_true e2)
        rw [iadd1 (by omega), fI_eq]
        refine c26_1 b hl n (i + 1) (by omega) (by omega) ?_
        rw [hd, runL_cons e2] at hk
        rw [show i + 1 + runL (s.drop (at' + (i + 1))) set = i + (runL (s.drop (at' + i + 1)) set + 1) by rw [← Nat.add_assoc at' i 1]; omega]
        exact hk
      · have e2 : s[at' + i] ∉ set := fun h => (of_decide_eq_false e2) ((b.lt _).2 h)
        rw [hd, runL_stop e2] at hk
        exact hk
    · have e : ¬ at' + i < s.length := of_decide_eq_false e
      have hd : s.drop (at' + i) = [] := by rw [List.drop_eq_nil_iff]; omega
      rw [hd] at hk
      exact cnd_f rfl hk
theorem c26 {B : Nat} {set : List UInt8} (b : Base B set) (s : List UInt8) (at' : Nat) (ha : at' ≤ s.length) (hl : s.length ≤ 1099511627776) : Pure PP G h0 26 [S s, .int .i64 (Int.ofNat at'), .int .i64 (Int.ofNat B)] (.int .i64 (Int.ofNat (runL (s.drop at') set))) := by
  refine w26 (n := s.length + 2) sw_ok (g26 ?_)
  unfold s26_0
  refine c26_1 b hl _ 0 (by omega) ha ?_
  rw [Nat.add_zero, Nat.zero_add]
/-! ### The suffix -/
def normR (prev : Option UInt8) : List UInt8 → Option (List UInt8)
  | [] => some []
  | c :: r => if c = 85 then (normR (some c) r).map (117 :: ·) else if c = 76 then (if r.head? = some 108 ∨ prev = some 108 then none else (normR (some c) r).map (108 :: ·)) else (normR (some c) r).map (c :: ·)
def words8 : List (List UInt8) := [[], [117], [108], [117, 108], [108, 117], [108, 108], [117, 108, 108], [108, 108, 117]]
def sufR (s : List UInt8) : Bool × Bool := match normR none s with
  | none => (false, false)
  | some w => if w ∈ words8 then (w.contains 117, true) else (false, false)
noncomputable def T8 : Tm := Option.rec .e (fun t => t) (fillL (placeA 1) 8 [(0, (.str 0 0)), (1, (.str 1 117)), (2, (.str 1 108)), (3, (.str 2 27765)), (4, (.str 2 30060)), (5, (.str 2 27756)), (6, (.str 3 7105653)), (7, (.str 3 7695468))] (tlist (repl [.str 0 0] 8) 0 .e))
theorem b8w (h : H) : withElem env 35 (fun e ei => exBuildSlice 8 [(0, (.str 0 0)), (1, (.str 1 117)), (2, (.str 1 108)), (3, (.str 2 27765)), (4, (.str 2 30060)), (5, (.str 2 27756)), (6, (.str 3 7105653)), (7, (.str 3 7695468))] h e ei) = some (.slice h.next 0 8 1 true, h.new (.row T8 8 0 9 true)) := by kernel_rfl
theorem pick8 {h : H} {b : P} (ha : h.at b = .row T8 8 0 9 true) {r : Nat} (hr : r < 8) {K : Nat → Nat → Prop} (hk : ∀ t, words8.drop r = t :: words8.drop (r + 1) → (decide (r = 1) || decide (r = 3) || decide (r = 4) || decide (6 ≤ r)) = t.contains 117 → K t.length (enc t)) : elemA 1 r (.slice b 0 8 1 true) fun v => ld1 v h fun v => asS v K := by
  have key : ∀ t, words8.drop r = t :: words8.drop (r + 1) → (decide (r = 1) || decide (r = 3) || decide (r = 4) || decide (6 ≤ r)) = t.contains 117 → tget T8 r = S t → elemA 1 r (.slice b 0 8 1 true) fun v => ld1 v h fun v => asS v K := by
    intro t ht ht2 e
    have hb : elemA 1 r (.slice b 0 8 1 true) (fun v => ld1 v h fun v => asS v K) = ld1 (.ptr b r) h fun v => asS v K := by
      match r, hr with
      | 0, _ | 1, _ | 2, _ | 3, _ | 4, _ | 5, _ | 6, _ | 7, _ => rfl
    rw [hb]
    refine ld1_i ha hr ?_
    rw [e]
    exact hk t ht ht2
  match r, hr with
  | 0, _ => exact key [] rfl rfl (by kernel_rfl)
  | 1, _ => exact key [117] rfl rfl (by kernel_rfl)
  | 2, _ => exact key [108] rfl rfl (by kernel_rfl)
  | 3, _ => exact key [117, 108] rfl rfl (by kernel_rfl)
  | 4, _ => exact key [108, 117] rfl rfl (by kernel_rfl)
  | 5, _ => exact key [108, 108] rfl rfl (by kernel_rfl)
  | 6, _ => exact key [117, 108, 108] rfl rfl (by kernel_rfl)
  | 7, _ => exact key [108, 108, 117] rfl rfl (by kernel_rfl)
theorem c28_3 {w : List UInt8} {h : H} {b : P} (ha : h.at b = .row T8 8 0 9 true) {k : KV} : ∀ (n i : Nat), 8 - i < n → i ≤ 8 → (w ∈ words8.drop i → k (.tuple [.bool (w.contains 117), .bool true]) h) → (w ∉ words8.drop i → k (.tuple [.bool false, .bool false]) h) → (r28 W1 k n).a3 (.slice b 0 8 1 true) w.length (enc w) (Int.ofNat i) h
  | 0, _, hn, _, _, _ => absurd hn (Nat.not_lt_zero _)
  | n + 1, i, hn, hi, hk1, hk2 => by
    refine j28_3 ?_
    unfold s28_3
    rw [lenV_sl, ilt]
    refine cnd_i (fun e => ?_) (fun e => ?_)
    · have e : i < 8 := of_decide_eq_true e
      rw [natI_eq]
      refine pick8 ha e fun t h1 h2 => ?_
      rw [strEq_enc]
      rw [h1] at hk1 hk2
      refine cnd_i (fun e2 => ?_) (fun e2 => ?_)
      · have e2 : t = w := of_decide_eq_true e2
        refine or_b ?_
        refine or_b ?_
        refine or_b ?_
        rw [ieqN, ieqN, ieqN, ile, h2, e2]
        exact hk1 (by rw [e2]; simp)
      · have e2 : ¬ t = w := of_decide_eq_false e2
        have e3 : ¬ w = t := fun h => e2 h.symm
        rw [iadd1 (by omega), fI_eq]
        refine c28_3 ha n (i + 1) (by omega) e (fun h => hk1 (by simp [h])) (fun h => hk2 (by simp [h, e3]))
    · have e : i = 8 := by
        have : ¬ i < 8 := of_decide_eq_false e
        omega
      subst e
      exact hk2 (by simp [words8])
theorem cvone' (x : UInt8) (h : H) : convA env (h.new (.row (T1 (Int.ofNat x.toNat)) 1 0 TB true)) 37 9 (.slice h.next 0 1 1 true) = some (S [x], h.new (.row (T1 (Int.ofNat x.toNat)) 1 0 TB true)) :=
  conv_row (l := [x]) (at_new_same _ _) (Nat.le_refl 1) (CellsAre.new [x] _)
theorem c28_1 {s : List UInt8} {b : P} {k : KV} (hl : s.length ≤ 1099511627776) : ∀ (n i : Nat) (w : List UInt8) (h : H), 2 * (s.length - i) + 11 ≤ n → i ≤ s.length → w.length = i → h.at b = .row T8 8 0 9 true → b.nat < h.next.nat →
    (∀ m h', 10 ≤ m → h'.at b = .row T8 8 0 9 true → ∀ z, normR (if i = 0 then none else s[i - 1]?) (s.drop i) = some z → (r28 W1 k m).a3 (.slice b 0 8 1 true) (w ++ z).length (enc (w ++ z)) (Int.ofNat 0) h') →
    (normR (if i = 0 then none else s[i - 1]?) (s.drop i) = none → ∀ h', k (.tuple [.bool false, .bool false]) h') →
    (r28 W1 k n).a1 s.length (enc s) (.slice b 0 8 1 true) w.length (enc w) (Int.ofNat i) h
  | 0, _, _, _, hn, _, _, _, _, _, _ => absurd hn (by omega)
  | n + 1, i, w, h, hn, hi, hw, ha, hb, hk1, hk2 => by
    refine j28_1 ?_
    unfold s28_1
    rw [ilt]
    by_cases e : i < s.length
    · refine cnd_t (decide_eq_true e) ?_
      have hd : s.drop i = s[i] :: s.drop (i + 1) := List.drop_eq_getElem_cons e
      obtain ⟨n, rfl⟩ : ∃ n', n = n' + 1 := ⟨n - 1, by omega⟩
      have nxt : (if i + 1 = 0 then none else s[i + 1 - 1]?) = some s[i] := by rw [if_neg (by omega)]; simp [e]
      have step : ∀ x : UInt8, normR (if i = 0 then none else s[i - 1]?) (s.drop i) = (normR (some s[i]) (s.drop (i + 1))).map (x :: ·) → (r28 W1 k (n + 1)).a2 s.length (enc s) (.slice b 0 8 1 true) w.length (enc w) (Int.ofNat i) (Int.ofNat x.toNat) h := by
        intro x hx
        refine j28_2 ?_
        unfold s28_2
        rw [bld1, oK_some, cvone', oK_some, asS_s]
        refine catS_i (by rw [List.length_singleton]; omega) ?_
        rw [iadd1 (by omega), fI_eq]
        refine c28_1 hl n (i + 1) (w ++ [x]) _ (by omega) e (by rw [List.length_append, hw]; rfl) (by rw [at_new_o hb]; exact ha) (by rw [next_new]; omega) (fun m h' hm ha' z hz => ?_) (fun hz h' => ?_)
        · rw [nxt] at hz
          have := hk1 m h' hm ha' (x :: z) (by rw [hx, hz]; rfl)
          rw [List.append_assoc]; exact this
        · rw [nxt] at hz
          exact hk2 (by rw [hx, hz]; rfl) h'
      have unf : normR (if i = 0 then none else s[i - 1]?) (s.drop i) = if s[i] = 85 then (normR (some s[i]) (s.drop (i + 1))).map (117 :: ·) else if s[i] = 76 then (if (s.drop (i + 1)).head? = some 108 ∨ (if i = 0 then none else s[i - 1]?) = some 108 then none else (normR (some s[i]) (s.drop (i + 1))).map (108 :: ·)) else (normR (some s[i]) (s.drop (i + 1))).map (s[i] :: ·) := by
        rw [hd]; rfl
      rw [natI_eq]
      refine idxS_i e ?_
      rw [toNat_eq _ 85 (by decide), toNat_eq _ 76 (by decide)]
      refine cnd_i (fun e1 => ?_) (fun e1 => ?_)
      · have e1 : s[i] = 85 := of_decide_eq_true e1
        exact step 117 (by rw [unf, if_pos e1])
      · have e1 : ¬ s[i] = 85 := of_decide_eq_false e1
        refine cnd_i (fun e2 => ?_) (fun e2 => ?_)
        · have e2 : s[i] = 76 := of_decide_eq_true e2
          rw [iadd1 (by omega), fI_eq]
          have A : ∀ K : Bool → H → Prop, K (decide ((s.drop (i + 1)).head? = some 108)) h → joinB (fun k6 => gate true (iblt (Int.ofNat (i + 1)) (Int.ofNat s.length)) (fI (Int.ofNat (i + 1)) fun n9 => natI n9 fun m10 => idxS s.length (enc s) m10 fun m11 => k6 (ibeq (Int.ofNat m11) (Int.ofNat 108)) h) (k6 false h)) K := by
            intro K hK
            rw [ilt]
            refine and_i (fun e3 => ?_) (fun e3 => ?_)
            · have e3 : i + 1 < s.length := of_decide_eq_true e3
              rw [fI_eq, natI_eq]
              refine idxS_i e3 ?_
              rw [toNat_eq _ 108 (by decide)]
              rw [List.drop_eq_getElem_cons e3] at hK
              have : decide ((s[i + 1] :: s.drop (i + 1 + 1)).head? = some 108) = decide (s[i + 1] = 108) := by
                show decide (some (s[i + 1]'e3) = some 108) = _
                rw [Bool.eq_iff_iff, decide_eq_true_eq, decide_eq_true_eq, Option.some.injEq]
              rw [this] at hK; exact hK
            · have e3 : ¬ i + 1 < s.length := of_decide_eq_false e3
              have : s.drop (i + 1) = [] := by rw [List.drop_eq_nil_iff]; omega
              rw [this] at hK; exact hK
          refine A _ ?_
          refine or_q (b := decide ((if i = 0 then none else s[i - 1]?) = some 108)) (fun k' hk' => ?_) ?_
          · rw [ilt]
            refine and_i (fun e3 => ?_) (fun e3 => ?_)
            · have e3 : 0 < i := of_decide_eq_true e3
              rw [isub1 e3 (by omega), fI_eq, natI_eq]
              refine idxS_i (by omega) ?_
              rw [toNat_eq _ 108 (by decide)]
              rw [if_neg (by omega), List.getElem?_eq_getElem (by omega)] at hk'
              have : decide (some (s[i - 1]'(by omega)) = some (108 : UInt8)) = decide (s[i - 1]'(by omega) = 108) := by simp
              rw [this] at hk'; exact hk'
            · have e3 : ¬ 0 < i := of_decide_eq_false e3
              rw [if_pos (by omega)] at hk'
              exact hk'
          refine cnd_i (fun e3 => ?_) (fun e3 => ?_)
          · simp only [Bool.or_eq_true, decide_eq_true_eq] at e3
            exact hk2 (by rw [unf, if_neg e1, if_pos e2, if_pos e3]) h
          · simp only [Bool.or_eq_false_iff, decide_eq_false_iff_not] at e3
            exact step 108 (by rw [unf, if_neg e1, if_pos e2, if_neg (fun h => h.elim e3.1 e3.2)])
        · have e2 : ¬ s[i] = 76 := of_decide_eq_false e2
          exact step s[i] (by rw [unf, if_neg e1, if_neg e2])
    · refine cnd_f (decide_eq_false e) ?_
      have hd : s.drop i = [] := by rw [List.drop_eq_nil_iff]; omega
      have := hk1 n h (by omega) ha [] (by rw [hd]; rfl)
      rw [List.append_nil] at this
      exact this
theorem sufR_some {s z : List UInt8} (h : normR none s = some z) : sufR s = if z ∈ words8 then (z.contains 117, true) else (false, false) := by unfold sufR; rw [h]
theorem c28 (s : List UInt8) (hl : s.length ≤ 1099511627776) : Pure PP G h0 28 [S s] (.tuple [.bool (sufR s).1, .bool (sufR s).2]) := by
  refine w28 (n := 2 * s.length + 20) sw_ok (g28 ?_)
  unfold s28_0
  rw [b8w, oK_some]
  refine c28_1 hl _ 0 [] _ (by omega) (Nat.zero_le _) rfl (at_new_same _ _) (by rw [next_new]; omega) (fun m h' hm ha' z hz => ?_) (fun hz h' => ?_)
  · rw [if_pos rfl, List.drop_zero] at hz
    refine c28_3 (w := z) ha' m 0 (by omega) (by omega) (fun hw => ?_) (fun hw => ?_)
    · show AV.tuple _ = AV.tuple _
      rw [sufR_some hz, if_pos (show z ∈ words8 from hw)]
    · show AV.tuple _ = AV.tuple _
      rw [sufR_some hz, if_neg (show z ∉ words8 from hw)]
  · rw [if_pos rfl, List.drop_zero] at hz
    show AV.tuple _ = AV.tuple _
    unfold sufR; rw [hz]
end Go.Den
namespace Go.Den
open Go.RowKit
set_option maxRecDepth 100000
/-! ### The document's Number -/
def numR3 (B : Nat) (set r : List UInt8) : Option (Nat × Bool) :=
  if runL r set = 0 then none else if valN B 0 (r.take (runL r set)) < 18446744073709551616 then (if (sufR (r.drop (runL r set))).2 = true then some (valN B 0 (r.take (runL r set)), (sufR (r.drop (runL r set))).1 || decide (9223372036854775807 < valN B 0 (r.take (runL r set)))) else none) else none
def numR (s : List UInt8) : Option (Nat × Bool) := if hexedL s = true then numR3 16 hexL (s.drop 2) else if s.take 1 = [48] then numR3 8 octL s else numR3 10 decL s
theorem b28 (h : H) : exBuild env (env.ty 28) [] h = some (.agg [.int .u64 (Int.ofNat 0), .bool false], h) := by kernel_rfl
theorem b28v (n : Int) (b : Bool) (h : H) : exBuild env (env.ty 28) [(0, (.int .u64 n)), (1, (.bool b))] h = some (.agg [.int .u64 n, .bool b], h) := by kernel_rfl
theorem put2 {h : H} {p : P} {t : Tm} {e : TypeId} {a b : AV} {ok : Bool} {k : KV} (ha : h.at p = .row t 2 0 e true) (hk : ∀ h', k (.tuple [.agg [a, b], .bool ok]) h') : stn 2 (.ptr p 0) (.agg [a, b]) h fun h' => ldn 2 (.ptr p 0) h' fun v => k (.tuple [v, .bool ok]) h' := by
  refine stn_i ha (Nat.le_refl _) rfl (by decide) (by decide) ?_
  refine ldn_i (at_put_same _ _ _) (by decide) ?_
  rw [gc2]
  exact hk _
theorem valN_app {B v : Nat} (a b : List UInt8) : valN B v (a ++ b) = valN B (valN B v a) b := by unfold valN; rw [List.foldl_append]
section
variable {B at' : Nat} {s set : List UInt8} {p : P} {t : Tm} {h : H} {k : KV} (b : Base B set) (hl : s.length ≤ 1099511627776) (hat : at' ≤ s.length) (ha : h.at p = .row t 2 0 28 true) (hk : ∀ h', k (numV (numR3 B set (s.drop at'))) h')
include b hl hat ha hk
theorem c10_1 (hN : runL (s.drop at') set ≠ 0) : ∀ (n j : Nat), runL (s.drop at') set - j < n → j ≤ runL (s.drop at') set → valN B 0 ((s.drop at').take j) < 18446744073709551616 →
    (r10 W1 k n).a1 s.length (enc s) (.ptr p 0) (Int.ofNat B) (Int.ofNat at') (Int.ofNat (runL (s.drop at') set)) (Int.ofNat (valN B 0 ((s.drop at').take j))) (Int.ofNat (at' + j)) h
  | 0, _, hn, _, _ => absurd hn (Nat.not_lt_zero _)
  | n + 1, j, hn, hj, hv => by
    refine j10_1 ?_
    unfold s10_1
    have hr := runL_le (s.drop at') set
    have hdl : (s.drop at').length = s.length - at' := List.length_drop
    have hB := b.two
    rw [iaddN, wrapN (by omega), fI_eq, ilt]
    by_cases e : j < runL (s.drop at') set
    · refine cnd_t (decide_eq_true (by omega)) ?_
      have hjr : j < (s.drop at').length := by omega
      have hget : (s.drop at')[j] = s[at' + j] := List.getElem_drop
      have hmem : s[at' + j] ∈ set := by
        rw [← hget]
        refine run_mem (s := s.drop at') (n := j + 1) (by omega) ?_
        rw [List.take_add_one, List.getElem?_eq_getElem hjr]; simp
      have hd : refV s[at' + j] = digN s[at' + j] := (refV_facts _).2.2.2.1 (b.hex _ hmem)
      have h16 := (hex_48 _ (b.hex _ hmem)).2.2
      have tk : valN B 0 ((s.drop at').take (j + 1)) = valN B 0 ((s.drop at').take j) * B + digN s[at' + j] := by
        rw [List.take_add_one, List.getElem?_eq_getElem hjr, hget]
        rw [valN_app]; rfl
      rw [natI_eq]
      refine idxS_i (by omega) ?_
      refine use2 (c27 _) ?_
      rw [asI_k, hd, wrap64l (show digN s[at' + j] < 18446744073709551616 by omega), fI_eq, isubN (show digN s[at' + j] ≤ 18446744073709551615 by omega), wrap64l (show 18446744073709551615 - digN s[at' + j] < 18446744073709551616 by omega), fI_eq, wrap64l (show B < 18446744073709551616 by omega), fI_eq]
      have hq : ∀ K : Int → Prop, quoI .u64 (Int.ofNat (18446744073709551615 - digN s[at' + j])) (Int.ofNat B) K = K (Int.ofNat ((18446744073709551615 - digN s[at' + j]) / B)) := by
        intro K
        unfold quoI
        rw [ieqN, decide_eq_false (show ¬ B = 0 by omega)]
        show fI (wrap .u64 (Int.ofNat ((18446744073709551615 - digN s[at' + j]) / B))) K = _
        rw [wrap64l (by have := Nat.div_le_self (18446744073709551615 - digN s[at' + j]) B; omega), fI_eq]
      rw [hq, ilt]
      have hle : valN B 0 ((s.drop at').take j) ≤ (18446744073709551615 - digN s[at' + j]) / B ↔ valN B 0 ((s.drop at').take j) * B ≤ 18446744073709551615 - digN s[at' + j] := Nat.le_div_iff_mul_le (by omega)
      refine cnd_i (fun e2 => ?_) (fun e2 => ?_)
      · have e2 := of_decide_eq_true e2
        rw [b28, oK_some]
        have en : numR3 B set (s.drop at') = none := by
          unfold numR3
          rw [if_neg hN, if_neg]
          have h2 : valN B 0 ((s.drop at').take (j + 1)) ≤ valN B 0 ((s.drop at').take (runL (s.drop at') set)) := by
            have : (s.drop at').take (runL (s.drop at') set) = (s.drop at').take (j + 1) ++ ((s.drop at').drop (j + 1)).take (runL (s.drop at') set - (j + 1)) := by
              have := List.take_add (l := s.drop at') (i := j + 1) (j := runL (s.drop at') set - (j + 1))
              rw [show j + 1 + (runL (s.drop at') set - (j + 1)) = runL (s.drop at') set by omega] at this
              exact this
            rw [this, valN_app]
            exact valN_ge (by omega) _ _
          rw [tk] at h2
          omega
        refine put2 ha fun h' => ?_
        have := hk h'
        rw [en] at this
        exact this
      · have e2 : ¬ (18446744073709551615 - digN s[at' + j]) / B < valN B 0 ((s.drop at').take j) := of_decide_eq_false e2
        have e3 := hle.1 (by omega)
        rw [fI_eq, show Int.ofNat (valN B 0 ((s.drop at').take j)) * Int.ofNat B = Int.ofNat (valN B 0 ((s.drop at').take j) * B) from rfl, wrap64l (by omega), fI_eq, iaddN, wrap64l (by omega), fI_eq, iadd1 (by omega), fI_eq, ← tk]
        exact c10_1 hN n (j + 1) (by omega) e (by omega)
    · have ej : j = runL (s.drop at') set := by omega
      subst ej
      refine cnd_f (decide_eq_false (by omega)) ?_
      rw [fI_eq, natI_eq]
      refine cutS_d (by omega) ?_
      refine use2 (c28 _ (by rw [List.length_drop]; omega)) ?_
      rw [ext_0, asB_b, ext_1, asB_b, bnot_eq]
      have hdd : s.drop (at' + runL (s.drop at') set) = (s.drop at').drop (runL (s.drop at') set) := by rw [List.drop_drop]
      rw [hdd]
      have en : numR3 B set (s.drop at') = if (sufR ((s.drop at').drop (runL (s.drop at') set))).2 = true then some (valN B 0 ((s.drop at').take (runL (s.drop at') set)), (sufR ((s.drop at').drop (runL (s.drop at') set))).1 || decide (9223372036854775807 < valN B 0 ((s.drop at').take (runL (s.drop at') set)))) else none := by
        unfold numR3
        rw [if_neg hN, if_pos hv]
      refine cnd_i (fun e2 => ?_) (fun e2 => ?_)
      · rw [if_neg (by simpa using e2)] at en
        rw [b28, oK_some]
        refine put2 ha fun h' => ?_
        have := hk h'
        rw [en] at this
        exact this
      · rw [if_pos (by simpa using e2)] at en
        refine or_b ?_
        rw [ilt, b28v, oK_some]
        refine put2 ha fun h' => ?_
        have := hk h'
        rw [en] at this
        exact this
theorem c10_2 : (r10 W1 k (s.length + 5)).a2 s.length (enc s) (.ptr p 0) (Int.ofNat B) (Int.ofNat at') h := by
  refine j10_2 ?_
  unfold s10_2
  refine use2 (c26 b s at' hat hl) ?_
  rw [asI_k, ieqN]
  have hr := runL_le (s.drop at') set
  have hdl : (s.drop at').length = s.length - at' := List.length_drop
  refine cnd_i (fun e => ?_) (fun e => ?_)
  · have e := of_decide_eq_true e
    rw [b28, oK_some]
    refine put2 ha fun h' => ?_
    have := hk h'
    unfold numR3 at this
    rw [if_pos e] at this
    exact this
  · have e := of_decide_eq_false e
    exact c10_1 b hl hat ha hk e _ 0 (by omega) (Nat.zero_le _) (by show 0 < _; decide)
end
theorem c10 (s : List UInt8) (hl : s.length ≤ 1099511627776) : Pure PP G h0 10 [S s] (numV (numR s)) := by
  refine w10 (n := s.length + 6) sw_ok (g10 ?_)
  unfold s10_0
  refine newK_i ?_
  have ha : (h0.new ob28).at h0.next = .row (tlist [.int .u64 (Int.ofNat 0), .bool false] 0 .e) 2 0 28 true := at_new_same _ _
  have go : ∀ (B at' : Nat) (set : List UInt8), Base B set → at' ≤ s.length → numR s = numR3 B set (s.drop at') → (r10 W1 (fun v _ => v = numV (numR s)) (s.length + 5)).a2 s.length (enc s) (.ptr h0.next 0) (Int.ofNat B) (Int.ofNat at') (h0.new ob28) := by
    intro B at' set b hat e
    exact c10_2 b hl hat ha fun h' => by rw [e]
  match s, hl, go with
  | [], hl, go =>
    refine and_i (fun e => by cases e) (fun _ => ?_)
    refine cnd_f rfl ?_
    exact go 10 0 decL (.inr (.inl ⟨rfl, rfl⟩)) (Nat.zero_le _) rfl
  | c :: r, hl, go =>
    refine and_i (fun _ => ?_) (fun e => by rw [ilt] at e; simp at e)
    refine idxS_i (s := c :: r) (Nat.zero_lt_succ _) ?_
    rw [List.getElem_cons_zero, toNat_eq _ 48 (by decide)]
    refine cnd_i (fun e => ?_) (fun e => ?_)
    · have e : c = 48 := of_decide_eq_true e
      subst e
      match r, hl, go with
      | [], hl, go =>
        refine and_i (fun e => by cases e) (fun _ => ?_)
        refine cnd_f rfl ?_
        exact go 8 0 octL (.inl ⟨rfl, rfl⟩) (Nat.zero_le _) rfl
      | d :: r, hl, go =>
        refine and_i (fun _ => ?_) (fun e => by rw [ilt] at e; simp at e)
        refine idxS_i (s := 48 :: d :: r) (by simp) ?_
        refine or_q (b := decide (d = 88)) (fun k' hk' => ?_) ?_
        · refine idxS_i (s := 48 :: d :: r) (by simp) ?_
          show k' (ibeq (Int.ofNat d.toNat) (Int.ofNat 88)) _
          rw [toNat_eq _ 88 (by decide)]; exact hk'
        show cnd (ibeq (Int.ofNat d.toNat) (Int.ofNat 120) || decide (d = 88)) _ _
        rw [toNat_eq _ 120 (by decide)]
        have hx : hexedL (48 :: d :: r) = (decide (d = 120) || decide (d = 88)) := by unfold hexedL hx1 hx2; simp
        refine cnd_i (fun e => ?_) (fun e => ?_)
        · exact go 16 2 hexL (.inr (.inr ⟨rfl, rfl⟩)) (by simp) (by unfold numR; rw [hx, show (decide (d = 120) || decide (d = 88)) = true from e, if_pos rfl])
        · refine go 8 0 octL (.inl ⟨rfl, rfl⟩) (Nat.zero_le _) ?_
          unfold numR
          rw [hx, show (decide (d = 120) || decide (d = 88)) = false from e, if_neg (by simp), if_pos (by rfl)]
          rfl
    · have e : ¬ c = 48 := of_decide_eq_false e
      refine go 10 0 decL (.inr (.inl ⟨rfl, rfl⟩)) (Nat.zero_le _) ?_
      unfold numR
      have hx : hexedL (c :: r) = false := by unfold hexedL hx1 hx2; cases r <;> simp [e]
      rw [hx, if_neg (by simp), if_neg (by simp [e])]
      rfl
/-! ### It is the code's -/
theorem normR_len : ∀ (p : Option UInt8) (s z : List UInt8), normR p s = some z → z.length = s.length
  | _, [], z, h => by cases h; rfl
  | p, c :: r, z, h => by
    have key : ∀ (x : UInt8), (normR (some c) r).map (x :: ·) = some z → z.length = (c :: r).length := by
      intro x h
      cases hr : normR (some c) r with
      | none => rw [hr] at h; cases h
      | some y => rw [hr] at h; cases h; rw [List.length_cons, List.length_cons, normR_len _ r y hr]
    unfold normR at h
    split at h
    · exact key _ h
    · split at h
      · split at h
        · cases h
        · exact key _ h
      · exact key _ h
theorem normR_mem {x : UInt8} (h1 : x ≠ 85) (h2 : x ≠ 76) : ∀ (p : Option UInt8) (s z : List UInt8), normR p s = some z → x ∈ s → x ∈ z
  | _, [], _, _, hx => absurd hx (by simp)
  | p, c :: r, z, h, hx => by
    have key : ∀ (y : UInt8), (c = x → y = x) → (normR (some c) r).map (y :: ·) = some z → x ∈ z := by
      intro y hy h
      cases hr : normR (some c) r with
      | none => rw [hr] at h; cases h
      | some w =>
        rw [hr] at h; cases h
        rcases List.mem_cons.1 hx with rfl | hx
        · rw [hy rfl]; simp
        · exact List.mem_cons_of_mem _ (normR_mem h1 h2 _ r w hr hx)
    unfold normR at h
    split at h
    · rename_i e; exact key _ (fun e2 => absurd (e2.symm.trans e) h1) h
    · split at h
      · rename_i e
        split at h
        · cases h
        · exact key _ (fun e2 => absurd (e2.symm.trans e) h2) h
      · exact key _ (fun e => e) h
theorem words8_mem : ∀ w ∈ words8, w.length ≤ 3 ∧ ∀ x ∈ w, x ∈ sufL := by decide
theorem sufR_bad {s : List UInt8} {x : UInt8} (hx : x ∈ s) (h : x ∉ sufL) : (sufR s).2 = false := by
  unfold sufR
  cases hz : normR none s with
  | none => rfl
  | some z =>
    have h1 : x ≠ 85 := fun e => h (by subst e; decide)
    have h2 : x ≠ 76 := fun e => h (by subst e; decide)
    have := normR_mem h1 h2 none s z hz hx
    show (if z ∈ words8 then (z.contains 117, true) else (false, false)).2 = false
    rw [if_neg (fun hw => h ((words8_mem z hw).2 x this))]
theorem suf_same : ∀ (t : List UInt8), (∀ x ∈ t, x ∈ sufL) → (sufR t).2 = (sufP t).2 ∧ ((sufP t).2 = true → (sufR t).1 = (sufP t).1)
  | [], _ => by decide
  | [a], h => (show ∀ a ∈ sufL, (sufR [a]).2 = (sufP [a]).2 ∧ ((sufP [a]).2 = true → (sufR [a]).1 = (sufP [a]).1) by decide) a (h a (by simp))
  | [a, b], h => (show ∀ a ∈ sufL, ∀ b ∈ sufL, (sufR [a, b]).2 = (sufP [a, b]).2 ∧ ((sufP [a, b]).2 = true → (sufR [a, b]).1 = (sufP [a, b]).1) by decide) a (h a (by simp)) b (h b (by simp))
  | [a, b, c], h => (show ∀ a ∈ sufL, ∀ b ∈ sufL, ∀ c ∈ sufL, (sufR [a, b, c]).2 = (sufP [a, b, c]).2 ∧ ((sufP [a, b, c]).2 = true → (sufR [a, b, c]).1 = (sufP [a, b, c]).1) by decide) a (h a (by simp)) b (h b (by simp)) c (h c (by simp))
  | a :: b :: c :: d :: t, _ => by
    have h1 : (sufR (a :: b :: c :: d :: t)).2 = false := by
      unfold sufR
      cases hz : normR none (a :: b :: c :: d :: t) with
      | none => rfl
      | some z =>
        have := normR_len _ _ _ hz
        show (if z ∈ words8 then (z.contains 117, true) else (false, false)).2 = false
        rw [if_neg (fun hw => by have := (words8_mem z hw).1; simp at *; omega)]
    have long : ∀ r : List UInt8, 3 ≤ r.length → sufE r = false := by
      intro r hr
      match r, hr with
      | _ :: _ :: _ :: _, _ => simp [sufE]
    have h2 : (sufP (a :: b :: c :: d :: t)).2 = false := by
      show (if isUu a then (true, sufE (b :: c :: d :: t)) else if lastUu (a :: b :: c :: d :: t) then (true, sufE (a :: b :: c :: d :: t).dropLast) else (false, sufE (a :: b :: c :: d :: t)) : Bool × Bool).2 = false
      split
      · exact long _ (by simp)
      · split
        · exact long _ (by rw [List.length_dropLast]; simp)
        · exact long _ (by simp)
    rw [h1, h2]
    exact ⟨rfl, fun h => by cases h⟩
theorem hex_suf' : ∀ x ∈ hexL, x ∉ sufL := by decide
theorem runL_part {dd t set : List UInt8} (h : runL dd set < dd.length) : runL (dd ++ t) set = runL dd set := by
  induction dd with
  | nil => exact absurd h (by simp)
  | cons c dd ih =>
    by_cases hc : c ∈ set
    · rw [List.cons_append, runL_cons hc, runL_cons hc]
      rw [runL_cons hc, List.length_cons] at h
      rw [ih (by omega)]
    · rw [List.cons_append, runL_stop hc, runL_stop hc]
theorem runL_full {dd t set : List UInt8} (h : ∀ x ∈ dd, x ∈ set) (ht : ∀ x ∈ t, x ∉ set) : runL (dd ++ t) set = dd.length := by
  induction dd with
  | nil =>
    cases t with
    | nil => rfl
    | cons c t => exact runL_stop (ht c (by simp))
  | cons c dd ih =>
    rw [List.cons_append, runL_cons (h c (by simp)), ih (fun x hx => h x (by simp [hx]))]; rfl
theorem num_part {B : Nat} {set dd t : List UInt8} (b : Base B set) (ht : ∀ x ∈ t, x ∈ sufL) (hlast : ∀ x, dd.getLast? = some x → x ∉ sufL) : numR3 B set (dd ++ t) = num2 (sufP t).1 (sufP t).2 B set dd := by
  obtain ⟨hs1, hs2⟩ := suf_same t ht
  have hle := runL_le dd set
  by_cases hall : runL dd set = dd.length
  · have hm : ∀ x ∈ dd, x ∈ set := fun x hx => run_mem (s := dd) (set := set) (n := dd.length) (by omega) (by rw [List.take_length]; exact hx)
    have hr : runL (dd ++ t) set = dd.length := runL_full hm fun x hx h => hex_suf' x (b.hex x h) (ht x hx)
    unfold numR3 num2
    rw [hr, List.take_left, List.drop_left, hall, hs1]
    by_cases hne : dd = []
    · subst hne
      rw [if_pos (show ([] : List UInt8).length = 0 from rfl), if_pos (by simp)]
    · rw [if_neg (fun h => hne (List.eq_nil_of_length_eq_zero h)), decide_eq_true rfl, decide_eq_false hne]
      cases hok : (sufP t).2 with
      | false => simp
      | true => simp [hs2 hok]
  · have hlt : runL dd set < dd.length := by omega
    have hr : runL (dd ++ t) set = runL dd set := runL_part hlt
    have hn2 : num2 (sufP t).1 (sufP t).2 B set dd = none := if_pos (by rw [decide_eq_false hall]; simp)
    rw [hn2]
    unfold numR3
    rw [hr]
    have hdrop : (dd ++ t).drop (runL dd set) = dd.drop (runL dd set) ++ t := List.drop_append_of_le_length (by omega)
    have hbad : (sufR ((dd ++ t).drop (runL dd set))).2 = false := by
      rw [hdrop]
      have hne : dd.drop (runL dd set) ≠ [] := by rw [ne_eq, List.drop_eq_nil_iff]; omega
      have hl : dd.getLast? = some ((dd.drop (runL dd set)).getLast hne) := by
        have hdne : dd ≠ [] := fun h => by subst h; simp at hlt
        rw [List.getLast?_eq_some_getLast hdne, List.getLast_drop]
      exact sufR_bad (x := (dd.drop (runL dd set)).getLast hne) (List.mem_append_left _ (List.getLast_mem hne)) (hlast _ hl)
    rw [hbad]
    split
    · rfl
    · split <;> rfl
theorem rtrim_split (s : List UInt8) : ∃ t, s = rtrim s sufL ++ t ∧ (∀ x ∈ t, x ∈ sufL) ∧ ∀ x, (rtrim s sufL).getLast? = some x → x ∉ sufL := by
  refine ⟨(s.reverse.takeWhile (· ∈ sufL)).reverse, ?_, fun x hx => ?_, fun x hx => ?_⟩
  · unfold rtrim
    rw [← List.reverse_append, List.takeWhile_append_dropWhile, List.reverse_reverse]
  · rw [List.mem_reverse] at hx
    have := List.all_eq_true.1 List.all_takeWhile x hx
    simpa using this
  · unfold rtrim at hx
    rw [List.getLast?_reverse] at hx
    have := List.head?_dropWhile_not (fun x => decide (x ∈ sufL)) s.reverse
    rw [hx] at this
    simpa using this
theorem num_same (s : List UInt8) : numR s = numL s := by
  obtain ⟨t, h1, h2, h3⟩ := rtrim_split s
  have hd : s.drop (rtrim s sufL).length = t := by
    conv => lhs; arg 2; rw [h1]
    exact List.drop_left
  unfold numL
  rw [hd]
  revert h1 h3
  generalize rtrim s sufL = d
  intro h1 h3
  subst h1
  have hs : ∀ x ∈ t, x ≠ 48 ∧ x ≠ 120 ∧ x ≠ 88 := fun x hx => (show ∀ x ∈ sufL, x ≠ 48 ∧ x ≠ 120 ∧ x ≠ 88 by decide) x (h2 x hx)
  have hx : hexedL (d ++ t) = hexedL d := by
    unfold hexedL hx1 hx2
    match d with
    | [] =>
      match t, hs with
      | [], _ => rfl
      | [a], hs => simp
      | a :: b :: t, hs => simp [(hs a (by simp)).1]
    | [a] =>
      match t, hs with
      | [], _ => rfl
      | b :: t, hs => simp [(hs b (by simp)).2]
    | a :: b :: d => simp
  have h48 : (d ++ t).take 1 = [48] ↔ d.take 1 = [48] := by
    match d with
    | [] =>
      match t, hs with
      | [], _ => simp
      | a :: t, hs => simp [(hs a (by simp)).1]
    | a :: d => simp
  unfold numR
  rw [hx]
  by_cases e : hexedL d = true
  · rw [if_pos e, if_pos e]
    have hd2 : 2 ≤ d.length := by
      unfold hexedL at e
      rw [Bool.or_eq_true, decide_eq_true_eq, decide_eq_true_eq] at e
      rcases e with e | e <;> (have := congrArg List.length e; simp [hx1, hx2] at this; omega)
    rw [List.drop_append_of_le_length hd2]
    refine num_part (.inr (.inr ⟨rfl, rfl⟩)) h2 fun x hx => h3 x ?_
    have hne : d.drop 2 ≠ [] := fun h => by rw [h] at hx; cases hx
    have hdne : d ≠ [] := fun h => by subst h; simp at hd2
    rw [List.getLast?_eq_some_getLast hne, List.getLast_drop] at hx
    rw [List.getLast?_eq_some_getLast hdne]; exact hx
  · rw [if_neg e, if_neg e]
    by_cases e2 : d.take 1 = [48]
    · rw [if_pos e2, if_pos (h48.2 e2)]
      exact num_part (.inl ⟨rfl, rfl⟩) h2 h3
    · rw [if_neg e2, if_neg (fun h => e2 (h48.1 h))]
      exact num_part (.inr (.inl ⟨rfl, rfl⟩)) h2 h3
end Go.Den
