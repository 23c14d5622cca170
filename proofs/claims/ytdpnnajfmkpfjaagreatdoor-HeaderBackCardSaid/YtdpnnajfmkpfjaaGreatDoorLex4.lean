/-
  A part of the proof: number, punct and next, as the document's own answer has them.
-/
import Derived.Test.YtdpnnajfmkpfjaaGreatDoorLex3
namespace Go.Den
open Go.RowKit
set_option maxRecDepth 100000
/-! ### number -/
/-- no number goes on there -/
def stopN (x : UInt8) : Bool := !(isLetter x || isDigit x || x == 46 || x == 43 || x == 45)
theorem stopN_f {x : UInt8} (h : stopN x = true) : isLetter x = false ∧ isDigit x = false ∧ x ≠ 46 ∧ x ≠ 43 ∧ x ≠ 45 := by
  simp only [stopN, Bool.not_eq_true', Bool.or_eq_false_iff, beq_eq_false_iff_ne] at h
  obtain ⟨⟨⟨⟨a, b⟩, c⟩, d⟩, e⟩ := h
  exact ⟨a, b, c, d, e⟩
theorem c45_1 {h : H} {v : AV} {B : List UInt8} {i m : Nat} {k : KV} (hr : Rs h v B) (hl : B.length ≤ 1000000) (hm : m < B.length) (hs : stopN (bt B m) = true) (hk : ∀ j : Nat, i < j → j ≤ m → k (.int .i64 (Int.ofNat j)) h) : ∀ (n j : Nat), m - j < n → i < j → j ≤ m → (r45 W1 k n).a1 v (Int.ofNat j) h
  | 0, _, hn, _, _ => absurd hn (Nat.not_lt_zero _)
  | n + 1, j, hn, hi, hj => by
    obtain ⟨s1, s2, s3, s4, s5⟩ := stopN_f hs
    refine j45_1 ?_
    unfold s45_1
    refine c40 hr ?_
    unfold ub
    rw [asI_k, iaddN, wrapN (by omega), fI_eq]
    refine c40 hr ?_
    unfold ub
    rw [asI_k]
    refine or_b ?_
    refine or_b ?_
    refine or_b ?_
    refine and_q (b := (decide (bt B (j + 1) = 43) || decide (bt B (j + 1) = 45))) (fun k' hk' => ?_) ?_
    · refine or_b ?_
      rw [ieqU _ 43 43 rfl, ieqU _ 45 45 rfl]; exact hk'
    refine cnd_i (fun e => ?_) (fun _ => ?_)
    · rw [Bool.and_eq_true] at e
      have e2 := e.2
      rw [iaddN, wrapN (by omega), fI_eq]
      have hne : j + 1 ≠ m := fun e' => by
        rw [e', decide_eq_false s4, decide_eq_false s5] at e2; cases e2
      have hne' : j ≠ m := fun e' => by
        have e1 := e.1
        rw [e', ieqU _ 101 101 rfl, ieqU _ 69 69 rfl, ieqU _ 112 112 rfl, ieqU _ 80 80 rfl] at e1
        rcases Bool.or_eq_true _ _ ▸ e1 with e1 | e1
        · rcases Bool.or_eq_true _ _ ▸ e1 with e1 | e1
          · rcases Bool.or_eq_true _ _ ▸ e1 with e1 | e1
            · rw [of_decide_eq_true e1] at s1; revert s1; decide
            · rw [of_decide_eq_true e1] at s1; revert s1; decide
          · rw [of_decide_eq_true e1] at s1; revert s1; decide
        · rw [of_decide_eq_true e1] at s1; revert s1; decide
      exact c45_1 hr hl hm hs hk n (j + 2) (by omega) (by omega) (by omega)
    · refine use2 (c43 _) ?_
      rw [asB_b]
      refine or_q (b := isDigit (bt B j)) (fun k' hk' => ?_) ?_
      · refine use2 (c44 _) ?_
        rw [asB_b]; exact hk'
      refine or_b ?_
      rw [ieqU _ 46 46 rfl]
      refine cnd_i (fun e => ?_) (fun _ => hk j hi hj)
      have hne : j ≠ m := fun e' => by
        rw [e', s1, s2, decide_eq_false s3] at e; cases e
      rw [fI_eq]
      exact c45_1 hr hl hm hs hk n (j + 1) (by omega) (by omega) (by omega)
theorem c45 {h : H} {v : AV} {B : List UInt8} {i m : Nat} {k : KV} (hr : Rs h v B) (hl : B.length ≤ 1000000) (hi : i < m) (hm : m < B.length) (hs : stopN (bt B m) = true) (hk : ∀ j : Nat, i ≤ j → j ≤ m → k (.int .i64 (Int.ofNat j)) h) : W1 (.func 45) [v, .int .i64 (Int.ofNat i)] h k := by
  refine w45 (n := B.length + 4) sw_ok (g45 ?_)
  unfold s45_0
  refine c40 hr ?_
  unfold ub
  rw [asI_k]
  refine use2 (c44 _) ?_
  rw [asB_b]
  refine and_q (b := bnot (decide (bt B i = 46)) || bnot (isDigit (bt B (i + 1)))) (fun k' hk' => ?_) ?_
  · refine c40 hr ?_
    unfold ub
    rw [asI_k]
    refine or_q (b := bnot (isDigit (bt B (i + 1)))) (fun k'' hk'' => ?_) ?_
    · rw [iaddN, wrapN (by omega), fI_eq]
      refine c40 hr ?_
      unfold ub
      rw [asI_k]
      refine use2 (c44 _) ?_
      rw [asB_b]; exact hk''
    rw [ieqU _ 46 46 rfl]; exact hk'
  refine cnd_i (fun _ => hk i (Nat.le_refl _) (by omega)) (fun _ => ?_)
  rw [iaddN, wrapN (by omega), fI_eq]
  exact c45_1 (i := i) hr hl hm hs (fun j h1 h2 => hk j (by omega) h2) _ (i + 1) (by omega) (by omega) hi
/-- digits alone -/
theorem c45_d1 {h : H} {v : AV} {B : List UInt8} {i m : Nat} {k : KV} (hr : Rs h v B) (hl : B.length ≤ 1000000) (hm : m < B.length) (hd : ∀ x (hx : x < B.length), i ≤ x → x < m → isDigit B[x] = true) (hs : stopN (bt B m) = true) (hk : k (.int .i64 (Int.ofNat m)) h) : ∀ (n j : Nat), m - j < n → i < j → j ≤ m → (r45 W1 k n).a1 v (Int.ofNat j) h
  | 0, _, hn, _, _ => absurd hn (Nat.not_lt_zero _)
  | n + 1, j, hn, hi, hj => by
    obtain ⟨s1, s2, s3, s4, s5⟩ := stopN_f hs
    have hnp : (((ibeq (Int.ofNat (bt B j).toNat) (Int.ofNat 101) || ibeq (Int.ofNat (bt B j).toNat) (Int.ofNat 69)) || ibeq (Int.ofNat (bt B j).toNat) (Int.ofNat 112)) || ibeq (Int.ofNat (bt B j).toNat) (Int.ofNat 80)) = false := by
      have key : ∀ x : UInt8, (isDigit x = true ∨ isLetter x = false) → (((decide (x = 101) || decide (x = 69)) || decide (x = 112)) || decide (x = 80)) = false := fun x hx => by
        cases e : (((decide (x = 101) || decide (x = 69)) || decide (x = 112)) || decide (x = 80)) with
        | false => rfl
        | true =>
          simp only [Bool.or_eq_true, decide_eq_true_eq] at e
          rcases e with ((rfl | rfl) | rfl) | rfl <;> revert hx <;> decide
      rw [ieqU _ 101 101 rfl, ieqU _ 69 69 rfl, ieqU _ 112 112 rfl, ieqU _ 80 80 rfl]
      refine key _ ?_
      by_cases e : j = m
      · subst e; exact .inr s1
      · have hj' : j < B.length := by omega
        rw [bt_lt hj']; exact .inl (hd j hj' (by omega) (by omega))
    refine j45_1 ?_
    unfold s45_1
    refine c40 hr ?_
    unfold ub
    rw [asI_k, iaddN, wrapN (by omega), fI_eq]
    refine c40 hr ?_
    unfold ub
    rw [asI_k]
    refine or_b ?_
    refine or_b ?_
    refine or_b ?_
    rw [hnp]
    refine and_i (fun e => nomatch e) (fun _ => ?_)
    refine cnd_f rfl ?_
    refine use2 (c43 _) ?_
    rw [asB_b]
    refine or_q (b := isDigit (bt B j)) (fun k' hk' => ?_) ?_
    · refine use2 (c44 _) ?_
      rw [asB_b]; exact hk'
    refine or_b ?_
    rw [ieqU _ 46 46 rfl]
    by_cases e : j = m
    · subst e
      rw [s1, s2, decide_eq_false s3]
      exact cnd_f rfl hk
    · have hj' : j < B.length := by omega
      have hdj := hd j hj' (by omega) (by omega)
      rw [bt_lt hj', hdj]
      refine cnd_t (by simp) ?_
      rw [fI_eq]
      exact c45_d1 hr hl hm hd hs hk n (j + 1) (by omega) (by omega) (by omega)
theorem c45_d {h : H} {v : AV} {B : List UInt8} {i m : Nat} {k : KV} (hr : Rs h v B) (hl : B.length ≤ 1000000) (hi : i < m) (hm : m < B.length) (hd : ∀ x (hx : x < B.length), i ≤ x → x < m → isDigit B[x] = true) (hs : stopN (bt B m) = true) (hk : k (.int .i64 (Int.ofNat m)) h) : W1 (.func 45) [v, .int .i64 (Int.ofNat i)] h k := by
  refine w45 (n := B.length + 4) sw_ok (g45 ?_)
  unfold s45_0
  refine c40 hr ?_
  rw [bt_lt (show i < B.length by omega)]
  unfold ub
  rw [asI_k]
  refine use2 (c44 _) ?_
  rw [asB_b, hd i (by omega) (Nat.le_refl _) hi]
  refine and_i (fun e => nomatch e) (fun _ => ?_)
  refine cnd_f rfl ?_
  rw [iaddN, wrapN (by omega), fI_eq]
  exact c45_d1 hr hl hm hd hs hk _ (i + 1) (by omega) (by omega) hi
/-! ### punct -/
def puncts : List (List UInt8) := [[37, 58, 37, 58], [46, 46, 46], [60, 60, 61], [62, 62, 61], [45, 62], [43, 43], [45, 45], [60, 60], [62, 62], [60, 61], [62, 61], [61, 61], [33, 61], [38, 38], [124, 124], [42, 61], [47, 61], [37, 61], [43, 61], [45, 61], [38, 61], [94, 61], [124, 61], [35, 35], [60, 58], [58, 62], [60, 37], [37, 62], [37, 58],
  [91], [93], [40], [41], [123], [125], [46], [38], [42], [43], [45], [126], [33], [47], [37], [60], [62], [94], [124], [63], [58], [59], [61], [44], [35]]
noncomputable def T62 : Tm := Option.rec .e (fun t => t) (fillL (placeA 1) 54 [(0, (.str 4 975518245)), (1, (.str 3 3026478)), (2, (.str 3 4013116)), (3, (.str 3 4013630)), (4, (.str 2 15917)), (5, (.str 2 11051)), (6, (.str 2 11565)), (7, (.str 2 15420)), (8, (.str 2 15934)), (9, (.str 2 15676)), (10, (.str 2 15678)), (11, (.str 2 15677)), (12, (.str 2 15649)), (13, (.str 2 9766)), (14, (.str 2 31868)), (15, (.str 2 15658)), (16, (.str 2 15663)), (17, (.str 2 15653)), (18, (.str 2 15659)), (19, (.str 2 15661)), (20, (.str 2 15654)), (21, (.str 2 15710)), (22, (.str 2 15740)), (23, (.str 2 8995)), (24, (.str 2 14908)), (25, (.str 2 15930)), (26, (.str 2 9532)), (27, (.str 2 15909)), (28, (.str 2 14885)), (29, (.str 1 91)), (30, (.str 1 93)), (31, (.str 1 40)), (32, (.str 1 41)), (33, (.str 1 123)), (34, (.str 1 125)), (35, (.str 1 46)), (36, (.str 1 38)), (37, (.str 1 42)), (38, (.str 1 43)), (39, (.str 1 45)), (40, (.str 1 126)), (41, (.str 1 33)), (42, (.str 1 47)), (43, (.str 1 37)), (44, (.str 1 60)), (45, (.str 1 62)), (46, (.str 1 94)), (47, (.str 1 124)), (48, (.str 1 63)), (49, (.str 1 58)), (50, (.str 1 59)), (51, (.str 1 61)), (52, (.str 1 44)), (53, (.str 1 35))] (tlist (repl [.str 0 0] 54) 0 .e))
theorem T62_cells : getCells T62 54 0 = puncts.map fun p => .str (len p) (enc p) := by kernel_rfl
theorem c62 {h : H} {k : KV} (hk : k (.slice h.next 0 54 1 true) (h.new (.row T62 54 0 9 true))) : W1 (.func 62) [] h k := by
  refine w62 (n := 1) sw_ok (g62 ?_)
  unfold s62_0
  rw [show withElem env 33 (fun e ei => exBuildSlice 54 [(0, (.str 4 975518245)), (1, (.str 3 3026478)), (2, (.str 3 4013116)), (3, (.str 3 4013630)), (4, (.str 2 15917)), (5, (.str 2 11051)), (6, (.str 2 11565)), (7, (.str 2 15420)), (8, (.str 2 15934)), (9, (.str 2 15676)), (10, (.str 2 15678)), (11, (.str 2 15677)), (12, (.str 2 15649)), (13, (.str 2 9766)), (14, (.str 2 31868)), (15, (.str 2 15658)), (16, (.str 2 15663)), (17, (.str 2 15653)), (18, (.str 2 15659)), (19, (.str 2 15661)), (20, (.str 2 15654)), (21, (.str 2 15710)), (22, (.str 2 15740)), (23, (.str 2 8995)), (24, (.str 2 14908)), (25, (.str 2 15930)), (26, (.str 2 9532)), (27, (.str 2 15909)), (28, (.str 2 14885)), (29, (.str 1 91)), (30, (.str 1 93)), (31, (.str 1 40)), (32, (.str 1 41)), (33, (.str 1 123)), (34, (.str 1 125)), (35, (.str 1 46)), (36, (.str 1 38)), (37, (.str 1 42)), (38, (.str 1 43)), (39, (.str 1 45)), (40, (.str 1 126)), (41, (.str 1 33)), (42, (.str 1 47)), (43, (.str 1 37)), (44, (.str 1 60)), (45, (.str 1 62)), (46, (.str 1 94)), (47, (.str 1 124)), (48, (.str 1 63)), (49, (.str 1 58)), (50, (.str 1 59)), (51, (.str 1 61)), (52, (.str 1 44)), (53, (.str 1 35))] h e ei)
    = some (.slice h.next 0 54 1 true, h.new (.row T62 54 0 9 true)) by kernel_rfl, oK_some]
  exact hk
/-- strings, as elements of one cell -/
noncomputable def es (l : List (List UInt8)) : List (List AV) := l.map fun x => [S x]
theorem es_len (l : List (List UInt8)) : (es l).length = l.length := by unfold es; simp
theorem es_get {l : List (List UInt8)} {i : Nat} (h : i < l.length) (h' : i < (es l).length) : (es l)[i] = [S l[i]] := List.getElem_map (fun x => [S x]) (h := h')
theorem rd62 (h : H) : Rd 1 (h.new (.row T62 54 0 9 true)) (.slice h.next 0 54 1 true) (es puncts) := by
  refine ⟨h.next, 0, T62, 54, 0, 9, true, true, rfl, by rw [next_new]; omega, at_new_same _ _, by rw [es_len]; decide, fun i hi => ?_⟩
  have hi' : i < puncts.length := by rw [es_len] at hi; exact hi
  rw [es_get hi']
  refine ⟨rfl, fun j hj => ?_⟩
  have hj : j = 0 := by simp at hj; exact hj
  subst hj
  have e : getCells T62 54 0 = puncts.map fun p => S p := by
    rw [T62_cells]
    refine List.map_congr_left fun p _ => ?_
    rw [len_eq]
  have h1 : (getCells T62 54 0)[i]? = some (S puncts[i]) := by
    rw [e, List.getElem?_map, List.getElem?_eq_getElem hi']; rfl
  rw [getCells_eq, List.getElem?_map, List.getElem?_range (show i < 54 from hi')] at h1
  have h2 := Option.some.inj h1
  show tget T62 (0 + i * 1 + 0) = _
  rw [show 0 + i * 1 + 0 = 0 + i by omega]; exact h2
theorem Rd.str {h : H} {v : AV} {l : List (List UInt8)} (hr : Rd 1 h v (es l)) {i : Nat} (hi : i < l.length) {K : AV → Prop} (hk : K (S l[i])) : elemA 1 i v fun a => Go.Den.ld1 a h K := by
  have hi' : i < (es l).length := by rw [es_len]; exact hi
  have hc := es_get hi hi'
  refine hr.elem hi' fun q o _ _ ha => ?_
  have := ha.ld1 (j := 0) (K := K) (by rw [hc]; exact Nat.one_pos) (by simp only [hc, List.getElem_cons_zero]; exact hk)
  exact this
/-- is it there? -/
def pre (B : List UInt8) : Nat → List UInt8 → Bool
  | _, [] => true
  | i, x :: p => decide (bt B i = x) && pre B (i + 1) p
/-- the first that is there -/
def firstP (B : List UInt8) (i : Nat) : List (List UInt8) → Nat
  | [] => 0
  | p :: ps => if pre B i p = true then p.length else firstP B i ps
theorem plen : ∀ p ∈ puncts, p.length ≤ 4 := by decide
theorem c46_1 {h : H} {v w : AV} {B : List UInt8} {i : Nat} {k : KV} (hr : Rs h v B) (hp : Rd 1 h w (es puncts)) (hi : i ≤ 1000000) : ∀ (n : Nat),
    (∀ q, q ≤ 54 → 12 * (54 - q) + 2 ≤ n → k (.int .i64 (Int.ofNat (firstP B i (puncts.drop q)))) h → (r46 W1 k n).a1 v (Int.ofNat i) w (Int.ofNat q) h) ∧
    (∀ q (hq : q < puncts.length) j, j ≤ puncts[q].length → 12 * (54 - q) + 1 - j ≤ n → k (.int .i64 (Int.ofNat (if pre B (i + j) (puncts[q].drop j) = true then puncts[q].length else firstP B i (puncts.drop (q + 1))))) h → (r46 W1 k n).a2 v (Int.ofNat i) w (Int.ofNat q) (Int.ofNat j) h)
  | 0 => ⟨fun q _ hn => absurd hn (by omega), fun q hq j hj hn => by
      have := plen _ (List.getElem_mem hq)
      have hq' : q < 54 := hq
      omega⟩
  | n + 1 => by
    have ih := c46_1 hr hp hi (k := k) n
    refine ⟨fun q hq hn hk => ?_, fun q hq j hj hn hk => ?_⟩
    · refine j46_1 ?_
      unfold s46_1
      rw [hp.len, es_len, ilt]
      refine cnd_i (fun e => ?_) (fun e => ?_)
      · have e : q < puncts.length := of_decide_eq_true e
        refine ih.2 q e 0 (Nat.zero_le _) (by omega) ?_
        rw [List.drop_eq_getElem_cons e] at hk
        exact hk
      · have e : ¬ q < puncts.length := of_decide_eq_false e
        rw [List.drop_eq_nil_of_le (by omega)] at hk; exact hk
    · have hq' : q ≤ 53 := Nat.le_of_lt_succ hq
      have hl4 := plen _ (List.getElem_mem hq)
      refine j46_2 ?_
      unfold s46_2
      rw [natI_eq]
      refine hp.str hq ?_
      rw [asS_s, ilt]
      refine and_i (fun e => ?_) (fun e => ?_)
      · have e : j < puncts[q].length := of_decide_eq_true e
        rw [iaddN, wrapN (by omega), fI_eq, natI_eq]
        have hq2 : q < (es puncts).length := by rw [es_len]; exact hq
        have hc := es_get hq hq2
        refine hp.elem hq2 fun b o _ _ ha => ?_
        have ld : ∀ {K : AV → Prop}, K (S (puncts[q]'hq)) → ld1 (.ptr b o) h K := fun {K} hK => by
          have := ha.ld1 (j := 0) (K := K) (by rw [hc]; exact Nat.one_pos) (by simp only [hc, List.getElem_cons_zero]; exact hK)
          exact this
        refine ld ?_
        rw [asS_s, natI_eq]
        refine idxS_i e ?_
        refine c40 hr ?_
        unfold ub
        rw [asI_k]
        refine ld ?_
        rw [asS_s]
        have heq : ∀ {A : Prop}, A → eqC (S (puncts[q]'hq)) (S (puncts[q]'hq)) A := fun {A} hA => by
          show Bool.rec bad0 A (avEq 4 (S (puncts[q]'hq)) (S (puncts[q]'hq)))
          have : avEq 4 (S (puncts[q]'hq)) (S (puncts[q]'hq)) = true := by
            show band (Nat.beq _ _) (Nat.beq _ _) = true
            rw [Nat.beq_refl, Nat.beq_refl]; rfl
          rw [this]; exact hA
        refine heq ?_
        have hd : (puncts[q]'hq).drop j = (puncts[q]'hq)[j] :: (puncts[q]'hq).drop (j + 1) := List.drop_eq_getElem_cons e
        rw [hd] at hk
        rw [ieqB]
        refine cnd_i (fun e2 => ?_) (fun e2 => ?_)
        · rw [iaddN, wrapN (by omega), fI_eq]
          refine ih.2 q hq (j + 1) e (by omega) ?_
          show k (.int .i64 (Int.ofNat (if pre B (i + j + 1) _ = true then _ else _))) h
          have : pre B (i + j) ((puncts[q]'hq)[j] :: (puncts[q]'hq).drop (j + 1)) = pre B (i + j + 1) ((puncts[q]'hq).drop (j + 1)) := by
            show (decide (bt B (i + j) = (puncts[q]'hq)[j]) && _) = _
            rw [e2, Bool.true_and]
          rw [this] at hk; exact hk
        · refine hp.str hq ?_
          rw [asS_s, ieqN, decide_eq_false (by omega)]
          refine cnd_f rfl ?_
          rw [iaddN, wrapN (by omega), fI_eq]
          refine ih.1 (q + 1) hq (by omega) ?_
          have : pre B (i + j) ((puncts[q]'hq)[j] :: (puncts[q]'hq).drop (j + 1)) = false := by
            show (decide (bt B (i + j) = (puncts[q]'hq)[j]) && _) = _
            rw [e2, Bool.false_and]
          rw [this, if_neg Bool.false_ne_true] at hk; exact hk
      · have e : j = (puncts[q]'hq).length := by have := of_decide_eq_false e; omega
        refine cnd_f rfl ?_
        rw [natI_eq]
        refine hp.str hq ?_
        rw [asS_s, ieqN, decide_eq_true e]
        refine cnd_t rfl ?_
        rw [e, List.drop_length] at hk
        rw [e]
        exact hk
theorem c46 {h : H} {v : AV} {B : List UInt8} {i : Nat} {k : KV} (hr : Rs h v B) (hi : i ≤ 1000000) (hk : ∀ h', Exh h h' → k (.int .i64 (Int.ofNat (firstP B i puncts))) h') : W1 (.func 46) [v, .int .i64 (Int.ofNat i)] h k := by
  refine w46 (n := 1000) sw_ok (g46 ?_)
  unfold s46_0
  refine c62 ?_
  exact (c46_1 (hr.ext Exh.new) (rd62 h) hi 999).1 0 (by omega) (by omega) (hk _ Exh.new)
end Go.Den
