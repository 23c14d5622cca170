/-
  A part of the proof: the next token.
-/
import Derived.Test.YtdpnnajfmkpfjaaGreatDoorLex4
namespace Go.Den
open Go.RowKit
set_option maxRecDepth 100000
/-- no sign goes on from the one to the other -/
def joinOk (a b : UInt8) : Bool := puncts.all fun p => (p.zip p.tail).all fun x => !(x.1 == a && x.2 == b)
theorem pre_get {B : List UInt8} : ∀ (p : List UInt8) (i : Nat), pre B i p = true → ∀ j (hj : j < p.length), bt B (i + j) = p[j]
  | x :: p, i, h, 0, _ => by
    have h : (decide (bt B i = x) && pre B (i + 1) p) = true := h
    rw [Bool.and_eq_true] at h
    exact of_decide_eq_true h.1
  | x :: p, i, h, j + 1, hj => by
    have h : (decide (bt B i = x) && pre B (i + 1) p) = true := h
    rw [Bool.and_eq_true] at h
    have := pre_get p (i + 1) h.2 j (by simpa using hj)
    rw [show i + (j + 1) = i + 1 + j by omega]; exact this
theorem firstP_mem {B : List UInt8} {i : Nat} : ∀ ps, firstP B i ps = 0 ∨ ∃ p ∈ ps, pre B i p = true ∧ firstP B i ps = p.length
  | [] => .inl rfl
  | p :: ps => by
    unfold firstP
    by_cases e : pre B i p = true
    · rw [if_pos e]; exact .inr ⟨p, List.mem_cons_self, e, rfl⟩
    · rw [if_neg e]
      rcases firstP_mem (B := B) (i := i) ps with h | ⟨q, h1, h2, h3⟩
      · exact .inl h
      · exact .inr ⟨q, List.mem_cons_of_mem _ h1, h2, h3⟩
theorem firstP_pos {B : List UInt8} {i : Nat} {q : List UInt8} (hq : pre B i q = true) : ∀ ps, (∀ p ∈ ps, p ≠ []) → q ∈ ps → firstP B i ps ≠ 0
  | p :: ps, h0, hm => by
    unfold firstP
    by_cases e : pre B i p = true
    · rw [if_pos e]
      have := h0 p List.mem_cons_self
      exact fun h => this (List.length_eq_zero_iff.1 h)
    · rw [if_neg e]
      rcases List.mem_cons.1 hm with rfl | hm
      · exact absurd hq e
      · exact firstP_pos hq ps (fun p hp => h0 p (List.mem_cons_of_mem _ hp)) hm
theorem seg_punct {B : List UInt8} {i m : Nat} (hi : i < m) (hj : joinOk (bt B (m - 1)) (bt B m) = true) : i + firstP B i puncts ≤ m := by
  rcases firstP_mem (B := B) (i := i) puncts with h | ⟨p, hp, h1, h2⟩
  · omega
  · rw [h2]
    refine Nat.le_of_not_lt fun hlt => ?_
    have hl : m - i < p.length := by omega
    have hl' : m - i - 1 < p.length := by omega
    have g1 := pre_get p i h1 (m - i) hl
    have g2 := pre_get p i h1 (m - i - 1) hl'
    rw [show i + (m - i) = m by omega] at g1
    rw [show i + (m - i - 1) = m - 1 by omega] at g2
    have h3 := List.all_eq_true.1 hj p hp
    have hz : m - i - 1 < (p.zip p.tail).length := by
      rw [List.length_zip, List.length_tail]; omega
    have h4 := List.all_eq_true.1 h3 ((p.zip p.tail)[m - i - 1]) (List.getElem_mem hz)
    rw [List.getElem_zip] at h4
    have e : (p.tail)[m - i - 1]'(by rw [List.length_tail]; omega) = p[m - i] := by
      rw [List.getElem_tail]; congr 1; omega
    rw [e, ← g1, ← g2] at h4
    simp at h4
theorem one_punct {B : List UInt8} {i : Nat} (hj : joinOk (bt B i) (bt B (i + 1)) = true) (hm : [bt B i] ∈ puncts) : firstP B i puncts = 1 := by
  have h1 := seg_punct (B := B) (i := i) (m := i + 1) (by omega) (by rw [Nat.add_sub_cancel]; exact hj)
  have h2 := firstP_pos (B := B) (i := i) (q := [bt B i]) (by show (decide (bt B i = bt B i) && true) = true; simp) puncts (by decide) hm
  omega
theorem c45_no {h : H} {v : AV} {B : List UInt8} {i : Nat} {k : KV} (hr : Rs h v B) (hi : i ≤ 1000000) (h1 : isDigit (bt B i) = false) (h2 : bt B i ≠ 46) (hk : k (.int .i64 (Int.ofNat i)) h) : W1 (.func 45) [v, .int .i64 (Int.ofNat i)] h k := by
  refine w45 (n := 1) sw_ok (g45 ?_)
  unfold s45_0
  refine c40 hr ?_
  unfold ub
  rw [asI_k]
  refine use2 (c44 _) ?_
  rw [asB_b]
  refine and_q (b := true) (fun k' hk' => ?_) ?_
  · refine c40 hr ?_
    unfold ub
    rw [asI_k]
    refine or_q (b := bnot (isDigit (bt B (i + 1)))) (fun k'' hk'' => ?_) ?_
    · rw [iaddN, wrapN (by omega), fI_eq]
      refine c40 hr ?_
      unfold ub
      rw [asI_k]
      refine use2 (c44 _) ?_
      rw [asB_b]; exact hk''
    rw [ieqU _ 46 46 rfl, decide_eq_false h2]; exact hk'
  rw [h1]
  exact cnd_t rfl hk
/-- the signs of names -/
def nameC (x : UInt8) : Bool := isLetter x || isDigit x || x == 46 || x == 45 || x == 47
def stopC (x : UInt8) : Bool := stopN x && x != 34 && x != 39
theorem stopC_f {x : UInt8} (h : stopC x = true) : stopN x = true ∧ x ≠ 34 ∧ x ≠ 39 := by
  simp only [stopC, Bool.and_eq_true, bne_iff_ne] at h
  exact ⟨h.1.1, h.1.2, h.2⟩
structure Seg (B : List UInt8) (i m : Nat) : Prop where
  lt : i < m
  hm : m < B.length
  chars : ∀ j (hj : j < B.length), i ≤ j → j < m → nameC B[j] = true
  stop : stopC (bt B m) = true
  join : joinOk (bt B (m - 1)) (bt B m) = true
  slash : ∀ j, i ≤ j → j < m → bt B j = 47 → bt B (j + 1) ≠ 47 ∧ bt B (j + 1) ≠ 42
theorem name_q {x : UInt8} (h : nameC x = true) : x ≠ 34 ∧ x ≠ 39 := by
  constructor <;> (rintro rfl; revert h; decide)
theorem Seg.noq {B : List UInt8} {i m : Nat} (s : Seg B i m) {j : Nat} (h1 : i ≤ j) (h2 : j ≤ m) : bt B j ≠ 34 ∧ bt B j ≠ 39 := by
  by_cases e : j = m
  · subst e; exact (stopC_f s.stop).2
  · have hj : j < B.length := by have := s.hm; omega
    rw [bt_lt hj]; exact name_q (s.chars j hj h1 (by omega))
theorem Seg.letters {B : List UInt8} {i m : Nat} (s : Seg B i m) : lettersV B i = Int.negSucc 0 := by
  have h0 := s.noq (Nat.le_refl _) (Nat.le_of_lt s.lt)
  have h1 := s.noq (Nat.le_succ i) s.lt
  have h2 : bt B (i + 1) = 56 → bt B (i + 2) ≠ 34 := fun e => by
    have : i + 1 ≠ m := fun e' => by
      have := (stopN_f (stopC_f s.stop).1).2.1
      rw [← e', e] at this; revert this; decide
    exact (s.noq (by omega) (by have := s.lt; omega)).1
  unfold lettersV
  rw [decide_eq_false h0.1, decide_eq_false h0.2, decide_eq_false h1.1, decide_eq_false h1.2]
  rw [if_neg (by decide)]
  by_cases e : bt B (i + 1) = 56
  · rw [decide_eq_false (h2 e), Bool.and_false, if_neg (by decide), Bool.or_self, Bool.and_false, if_neg (by decide)]
  · rw [decide_eq_false e, Bool.and_false, Bool.false_and, if_neg (by decide), Bool.or_self, Bool.and_false, if_neg (by decide)]
theorem c28_1 {h : H} {v : AV} {B : List UInt8} {i m : Nat} {k : KV} (hr : Rs h v B) (hl : B.length ≤ 1000000) (hm : m < B.length) (hs : stopN (bt B m) = true) (hk : ∀ j : Nat, i < j → j ≤ m → k (.tuple [.int .i64 (Int.ofNat 1), .int .i64 (Int.ofNat j), .bool false]) h) : ∀ (n j : Nat), m - j < n → i < j → j ≤ m → (r28 W1 k n).a1 v (Int.ofNat j) h
  | 0, _, hn, _, _ => absurd hn (Nat.not_lt_zero _)
  | n + 1, j, hn, hi, hj => by
    obtain ⟨s1, s2, _⟩ := stopN_f hs
    refine j28_1 ?_
    unfold s28_1
    refine c40 hr ?_
    unfold ub
    rw [asI_k]
    refine use2 (c43 _) ?_
    rw [asB_b]
    refine or_q (b := isDigit (bt B j)) (fun k' hk' => ?_) ?_
    · refine c40 hr ?_
      unfold ub
      rw [asI_k]
      refine use2 (c44 _) ?_
      rw [asB_b]; exact hk'
    refine cnd_i (fun e => ?_) (fun _ => hk j hi hj)
    have : j ≠ m := fun e' => by rw [e', s1, s2] at e; cases e
    rw [iaddN, wrapN (by omega), fI_eq]
    exact c28_1 hr hl hm hs hk n (j + 1) (by omega) (by omega) (by omega)
theorem negS : ible (Int.ofNat 0) (Int.negSucc 0) = false := by rw [ible_eq]; rfl
/-- some token within a name -/
theorem c28_seg {h : H} {v : AV} {B : List UInt8} {i m : Nat} {k : KV} (hr : Rs h v B) (hl : B.length ≤ 1000000) (s : Seg B i m) (hk : ∀ kd e : Nat, i < e → e ≤ m → ∀ h', Exh h h' → k (.tuple [.int .i64 (Int.ofNat kd), .int .i64 (Int.ofNat e), .bool false]) h') : W1 (.func 28) [v, .int .i64 (Int.ofNat i)] h k := by
  have hm := s.hm
  have hlt := s.lt
  have hs := (stopC_f s.stop).1
  refine w28 (n := B.length + 4) sw_ok (g28 ?_)
  unfold s28_0
  refine c41 hr (by omega) ?_
  rw [asI_k, s.letters, negS]
  refine cnd_f rfl ?_
  refine j28_2 ?_
  unfold s28_2
  refine c40 hr ?_
  unfold ub
  rw [asI_k]
  refine use2 (c43 _) ?_
  rw [asB_b]
  refine cnd_i (fun _ => ?_) (fun _ => ?_)
  · rw [iaddN, wrapN (by omega), fI_eq]
    exact c28_1 (i := i) hr hl hm hs (fun j h1 h2 => hk _ _ h1 h2 _ Exh.refl) _ (i + 1) (by omega) (by omega) hlt
  · refine c45 hr hl hlt hm hs fun j h1 h2 => ?_
    rw [asI_k, ilt]
    refine cnd_i (fun e => hk _ _ (of_decide_eq_true e) h2 _ Exh.refl) (fun _ => ?_)
    refine c46 hr (by omega) fun h' hx => ?_
    have hp := seg_punct hlt s.join
    rw [asI_k, ilt]
    refine cnd_i (fun e => ?_) (fun _ => ?_)
    · have e := of_decide_eq_true e
      rw [iaddN, wrapN (by omega), fI_eq]
      exact hk _ _ (by omega) (by omega) _ hx
    · rw [iaddN, wrapN (by omega), fI_eq]
      exact hk _ _ (by omega) (by omega) _ hx
/-- one sign alone -/
theorem c28_p {h : H} {v : AV} {B : List UInt8} {i : Nat} {k : KV} (hr : Rs h v B) (hi : i < 1000000) (hx : bt B i = 60 ∨ bt B i = 62) (hj : joinOk (bt B i) (bt B (i + 1)) = true) (hk : ∀ h', Exh h h' → k (.tuple [.int .i64 (Int.ofNat 5), .int .i64 (Int.ofNat (i + 1)), .bool false]) h') : W1 (.func 28) [v, .int .i64 (Int.ofNat i)] h k := by
  have f1 : lettersV B i = Int.negSucc 0 := by
    unfold lettersV
    rcases hx with e | e <;> (rw [e]; rfl)
  have f2 : isLetter (bt B i) = false := by rcases hx with e | e <;> (rw [e]; decide)
  have f3 : isDigit (bt B i) = false := by rcases hx with e | e <;> (rw [e]; decide)
  have f4 : bt B i ≠ 46 := by rcases hx with e | e <;> (rw [e]; decide)
  have f5 : [bt B i] ∈ puncts := by rcases hx with e | e <;> (rw [e]; decide)
  refine w28 (n := 4) sw_ok (g28 ?_)
  unfold s28_0
  refine c41 hr (by omega) ?_
  rw [asI_k, f1, negS]
  refine cnd_f rfl ?_
  refine j28_2 ?_
  unfold s28_2
  refine c40 hr ?_
  unfold ub
  rw [asI_k]
  refine use2 (c43 _) ?_
  rw [asB_b, f2]
  refine cnd_f rfl ?_
  refine c45_no hr (by omega) f3 f4 ?_
  rw [asI_k, ilt, decide_eq_false (Nat.lt_irrefl i)]
  refine cnd_f rfl ?_
  refine c46 hr (by omega) fun h' hx => ?_
  rw [one_punct hj f5, asI_k]
  refine cnd_t rfl ?_
  rw [iaddN, wrapN (by omega), fI_eq]
  exact hk h' hx
/-- a string -/
theorem c28_q {h : H} {v : AV} {B : List UInt8} {i a m : Nat} {k : KV} (hr : Rs h v B) (hl : B.length ≤ 1000000) (hi : i + a < m) (hm : m < B.length) (h1 : lettersV B i = Int.ofNat a) (hb : B[i + a] = 34) (hq : B[m] = 34) (hc : ∀ x (hx : x < B.length), i + a < x → x < m → B[x] ≠ 34 ∧ B[x] ≠ 10 ∧ B[x] ≠ 92) (hk : k (.tuple [.int .i64 (Int.ofNat 4), .int .i64 (Int.ofNat (m + 1)), .bool false]) h) : W1 (.func 28) [v, .int .i64 (Int.ofNat i)] h k := by
  refine w28 (n := 1) sw_ok (g28 ?_)
  unfold s28_0
  refine c41 hr (by omega) ?_
  rw [asI_k, h1, ile, decide_eq_true (Nat.zero_le a)]
  refine cnd_t rfl ?_
  rw [iaddN, wrapN (by omega), fI_eq]
  refine c42 hr hl hi hm hb hq (by decide) (by decide) hc ?_
  rw [asI_k, ilt, decide_eq_true (Nat.succ_pos m)]
  refine and_q (b := true) (fun k' hk' => ?_) ?_
  · rw [fI_eq]
    refine c40 hr ?_
    rw [bt_lt (show i + a < B.length by omega), hb]
    unfold ub
    rw [asI_k]; exact hk'
  exact cnd_t rfl hk
/-- digits -/
theorem c28_d {h : H} {v : AV} {B : List UInt8} {i m : Nat} {k : KV} (hr : Rs h v B) (hl : B.length ≤ 1000000) (hi : i < m) (hm : m < B.length) (hd : ∀ x (hx : x < B.length), i ≤ x → x < m → isDigit B[x] = true) (hs : stopN (bt B m) = true) (hk : k (.tuple [.int .i64 (Int.ofNat 2), .int .i64 (Int.ofNat m), .bool false]) h) : W1 (.func 28) [v, .int .i64 (Int.ofNat i)] h k := by
  have hd0 := hd i (by omega) (Nat.le_refl _) hi
  rw [← bt_lt (show i < B.length by omega)] at hd0
  have key : ∀ x : UInt8, isDigit x = true → x ≠ 34 ∧ x ≠ 39 ∧ x ≠ 117 ∧ x ≠ 76 ∧ x ≠ 85 ∧ isLetter x = false := fun x hx => by
    refine ⟨?_, ?_, ?_, ?_, ?_, ?_⟩
    · rintro rfl; revert hx; decide
    · rintro rfl; revert hx; decide
    · rintro rfl; revert hx; decide
    · rintro rfl; revert hx; decide
    · rintro rfl; revert hx; decide
    · simp only [isDigit, Bool.and_eq_true, decide_eq_true_eq] at hx
      simp only [isLetter, Bool.or_eq_false_iff, Bool.and_eq_false_iff, decide_eq_false_iff_not]
      omega
  obtain ⟨n1, n2, n3, n4, n5, n6⟩ := key _ hd0
  have f1 : lettersV B i = Int.negSucc 0 := by
    unfold lettersV
    rw [decide_eq_false n1, decide_eq_false n2, decide_eq_false n3, decide_eq_false n4, decide_eq_false n5]; rfl
  refine w28 (n := 4) sw_ok (g28 ?_)
  unfold s28_0
  refine c41 hr (by omega) ?_
  rw [asI_k, f1, negS]
  refine cnd_f rfl ?_
  refine j28_2 ?_
  unfold s28_2
  refine c40 hr ?_
  unfold ub
  rw [asI_k]
  refine use2 (c43 _) ?_
  rw [asB_b, n6]
  refine cnd_f rfl ?_
  refine c45_d hr hl hi hm hd hs ?_
  rw [asI_k, ilt, decide_eq_true hi]
  exact cnd_t rfl hk
end Go.Den
