/-
  A part of the proof: text, letters, quoted, comment, number, punct, as the document's own answer has them.
-/
import Derived.Test.YtdpnnajfmkpfjaaGreatDoorLex2
namespace Go.Den
open Go.RowKit
set_option maxRecDepth 100000
theorem cv37 (v : AV) (h : H) : convA env h 37 9 v = convStr env 37 v h := by kernel_rfl
theorem cvb (b : P) (o n : Nat) (h : H) : convBytes env 37 b o n h = (Option.rec none (fun cs => strAns h (cellBytes cs)) (h.read b o n) : Option (AV × H)) := by kernel_rfl
theorem strAns_ub (h : H) (l : List UInt8) : strAns h (cellBytes (ubs l)) = some (S l, h) := by
  rw [cells_u8]
  show some (strOf (l.map (·.toNat)), h) = _
  rw [str_u8]
theorem read_row {h : H} {q : P} {t : Tm} {m z n : Nat} {e : TypeId} {w : Bool} (ha : h.at q = .row t m z e w) (hn : n ≤ m) : h.read q 0 n = some (getCells t n 0) := by
  unfold Hp.read Hp.readK
  rw [ha]
  show (rdRow 0 n none some t m : Option (List AV)) = _
  unfold rdRow
  rw [show Nat.ble (Nat.add 0 n) m = true from Nat.ble_eq_true_of_le (by show 0 + n ≤ m; omega)]
theorem conv_row {h : H} {q : P} {t : Tm} {m z : Nat} {w : Bool} {l : List UInt8} {ti : Bool} (ha : h.at q = .row t m z TB w) (hm : l.length ≤ m) (hc : CellsAre t l) : convA env h 37 9 (.slice q 0 l.length 1 ti) = some (S l, h) := by
  rw [cv37]
  show convBytes env 37 q 0 l.length h = _
  rw [cvb, read_row ha hm, hc.get]
  exact strAns_ub h l
/-- bytes, as elements of one cell -/
def eb (l : List UInt8) : List (List AV) := l.map fun x => [ub x]
theorem eb_len (l : List UInt8) : (eb l).length = l.length := by unfold eb; simp
theorem eb_snoc (l : List UInt8) (x : UInt8) : eb (l ++ [x]) = eb l ++ [[ub x]] := by unfold eb; simp
theorem eb_get {l : List UInt8} {i : Nat} (h : i < l.length) (h' : i < (eb l).length) : (eb l)[i] = [ub l[i]] := List.getElem_map (fun x => [ub x]) (h := h')
theorem conv_eb {lo : Nat} {h : H} {v : AV} {l : List UInt8} (hb : BufN TB 1 lo h v (eb l)) : convA env h 37 9 v = some (S l, h) := by
  rcases hb with ⟨rfl, e⟩ | ⟨q, t, m, z, w, rfl, h1, h2, h3, h4, h5, h6⟩
  · have : l = [] := by cases l with
      | nil => rfl
      | cons x l => exact absurd e (by unfold eb; simp)
    subst this
    rw [cv37]; rfl
  · rw [eb_len] at h4
    rw [eb_len]
    refine conv_row h3 (by omega) fun i hi => ?_
    have := (h6 i (by rw [eb_len]; exact hi)).2 0 (by rw [eb_get hi]; exact Nat.one_pos)
    simp only [eb_get hi, List.getElem_cons_zero] at this
    rw [← this]
    congr 1; omega
/-- one more byte -/
theorem app_byte {lo : Nat} {h : H} {v : AV} {l : List UInt8} {x : UInt8} (hb : BufN TB 1 lo h v (eb l)) (hl : l.length + 1 ≤ 1099511627776) (hlo : lo ≤ h.next.nat) {k : KV} (hk : ∀ v' h', BufN TB 1 lo h' v' (eb (l ++ [x])) → Kp TB lo h h' → k v' h') :
    oK (withElem env 37 (fun e ei => exBuildSlice 1 [(0, .int .u8 (Int.ofNat x.toNat))] h e ei)) fun x h' => oK (builtinA env .append [37, 37] [v, x] h') k := by
  rw [bld1, oK_some, app37]
  exact app_new (ds := [ub x]) hb rfl (by rfl) (fits8 (by rw [eb_len]; exact hl)) hlo (by rw [← eb_snoc]; exact hk)
theorem c29_1 {hE : H} {B : List UInt8} {v0 : AV} {k : KV} (hl : B.length ≤ 1000000) (hr : Rs hE v0 B) (hk : ∀ h', Exh hE h' → k (S B) h') : ∀ (n i : Nat) {h : H} {v : AV}, B.length - i < n → i ≤ B.length → Exh hE h → BufN TB 1 hE.next.nat h v (eb (B.take i)) → (r29 W1 k n).a1 v0 v (Int.ofNat i) h
  | 0, _, _, _, hn, _, _, _ => absurd hn (Nat.not_lt_zero _)
  | n + 1, i, h, v, hn, hi, hx, hb => by
    refine j29_1 ?_
    unfold s29_1
    have hr' := hr.ext hx
    rw [hr'.len, ilt]
    refine cnd_i (fun e => ?_) (fun e => ?_)
    · have e : i < B.length := of_decide_eq_true e
      rw [natI_eq]
      refine hr'.at0 e ?_
      unfold ub
      rw [asI_k]
      refine app_byte hb (by rw [List.length_take]; omega) hx.1 fun v' h' hb' hk' => ?_
      rw [iaddN, wrapN (by omega), fI_eq]
      refine c29_1 hl hr hk n (i + 1) (by omega) e (hx.kp (Nat.le_refl _) hk') ?_
      rw [List.take_succ_eq_append_getElem e]; exact hb'
    · have e : i = B.length := by have := of_decide_eq_false e; omega
      subst e
      rw [List.take_length] at hb
      rw [conv_eb hb, oK_some]
      exact hk _ hx
theorem c29 {B : List UInt8} {v0 : AV} {h : H} {k : KV} (hl : B.length ≤ 1000000) (hr : Rs h v0 B) (hk : ∀ h', Exh h h' → k (S B) h') : W1 (.func 29) [v0] h k := by
  refine w29 (n := B.length + 2) sw_ok (g29 ?_)
  unfold s29_0
  exact c29_1 hl hr hk _ 0 (by omega) (Nat.zero_le _) Exh.refl (.inl ⟨rfl, rfl⟩)
/-! ### letters -/
def lettersV (B : List UInt8) (i : Nat) : Int :=
  if decide (bt B i = 34) || decide (bt B i = 39) then Int.ofNat 0
  else if (decide (bt B i = 117) && decide (bt B (i + 1) = 56)) && decide (bt B (i + 2) = 34) then Int.ofNat 2
  else if ((decide (bt B i = 76) || decide (bt B i = 117)) || decide (bt B i = 85)) && (decide (bt B (i + 1) = 34) || decide (bt B (i + 1) = 39)) then Int.ofNat 1
  else Int.negSucc 0
theorem ieqU (x : UInt8) (n : Nat) (y : UInt8) (hy : y.toNat = n) : ibeq (Int.ofNat x.toNat) (Int.ofNat n) = decide (x = y) := by
  subst hy; exact ieqB x y
theorem c41 {h : H} {v : AV} {B : List UInt8} {i : Nat} {k : KV} (hr : Rs h v B) (hi : i ≤ 1000000) (hk : k (.int .i64 (lettersV B i)) h) : W1 (.func 41) [v, .int .i64 (Int.ofNat i)] h k := by
  refine w41 (n := 1) sw_ok (g41 ?_)
  unfold s41_0
  refine c40 hr ?_
  unfold ub
  rw [asI_k]
  refine or_b ?_
  rw [ieqU _ 34 34 rfl, ieqU _ 39 39 rfl]
  unfold lettersV at hk
  refine cnd_i (fun e => ?_) (fun e => ?_)
  · rw [if_pos e] at hk; exact hk
  rw [if_neg (by rw [e]; exact Bool.false_ne_true)] at hk
  refine and_q (b := decide (bt B (i + 1) = 56)) (fun k' hk' => ?_) ?_
  · rw [iaddN, wrapN (by omega), fI_eq]
    refine c40 hr ?_
    unfold ub
    rw [asI_k, ieqU _ 56 56 rfl]; exact hk'
  refine and_q (b := decide (bt B (i + 2) = 34)) (fun k' hk' => ?_) ?_
  · rw [iaddN, wrapN (by omega), fI_eq]
    refine c40 hr ?_
    unfold ub
    rw [asI_k, ieqU _ 34 34 rfl]; exact hk'
  rw [ieqU _ 117 117 rfl]
  refine cnd_i (fun e => ?_) (fun e => ?_)
  · rw [if_pos e] at hk; exact hk
  rw [if_neg (by rw [e]; exact Bool.false_ne_true)] at hk
  refine or_b ?_
  refine or_b ?_
  refine and_q (b := (decide (bt B (i + 1) = 34) || decide (bt B (i + 1) = 39))) (fun k' hk' => ?_) ?_
  · rw [iaddN, wrapN (by omega), fI_eq]
    refine c40 hr ?_
    unfold ub
    rw [asI_k]
    refine or_q (b := decide (bt B (i + 1) = 39)) (fun k'' hk'' => ?_) ?_
    · rw [fI_eq]
      refine c40 hr ?_
      unfold ub
      rw [asI_k, ieqU _ 39 39 rfl]; exact hk''
    rw [ieqU _ 34 34 rfl]; exact hk'
  rw [ieqU _ 76 76 rfl, ieqU _ 85 85 rfl]
  refine cnd_i (fun e => ?_) (fun e => ?_)
  · rw [if_pos e] at hk; exact hk
  · rw [if_neg (by rw [e]; exact Bool.false_ne_true)] at hk; exact hk
/-! ### quoted -/
theorem c42_1 {h : H} {v : AV} {B : List UInt8} {m : Nat} {q : UInt8} {k : KV} (hr : Rs h v B) (hl : B.length ≤ 1000000) (hm : m < B.length) (hq : B[m] = q) (q1 : q ≠ 10) (q2 : q ≠ 92) (hk : k (.int .i64 (Int.ofNat (m + 1))) h) : ∀ (n j : Nat), 2 * (m - j) + 1 < n → j ≤ m → (∀ x (hx : x < B.length), j ≤ x → x < m → B[x] ≠ q ∧ B[x] ≠ 10 ∧ B[x] ≠ 92) → (r42 W1 k n).a1 v (Int.ofNat q.toNat) (Int.ofNat j) h
  | 0, _, hn, _, _ => absurd hn (Nat.not_lt_zero _)
  | n + 1, j, hn, hj, hc => by
    refine j42_1 ?_
    unfold s42_1
    have hjB : j < B.length := by omega
    have n10 : B[j] ≠ 10 := by
      by_cases e : j = m
      · subst e; rw [hq]; exact q1
      · exact (hc j hjB (Nat.le_refl _) (by omega)).2.1
    have n92 : B[j] ≠ 92 := by
      by_cases e : j = m
      · subst e; rw [hq]; exact q2
      · exact (hc j hjB (Nat.le_refl _) (by omega)).2.2
    rw [hr.len, ilt, decide_eq_true hjB]
    refine and_q (b := true) (fun k' hk' => ?_) ?_
    · rw [natI_eq]
      refine hr.at0 hjB ?_
      unfold ub
      rw [asI_k, ieqU _ 10 10 rfl, decide_eq_false n10]; exact hk'
    refine cnd_t rfl ?_
    rw [natI_eq]
    refine hr.at0 hjB ?_
    unfold ub
    rw [asI_k]
    refine and_q (b := decide (j + 1 < B.length)) (fun k' hk' => ?_) ?_
    · rw [iaddN, wrapN (by omega), fI_eq, hr.len, ilt]; exact hk'
    rw [ieqU _ 92 92 rfl, decide_eq_false (show B[j] ≠ 92 from n92)]
    refine and_i (fun e => nomatch e) (fun _ => ?_)
    refine cnd_f rfl ?_
    rw [natI_eq]
    refine hr.at0 hjB ?_
    unfold ub
    rw [asI_k, ieqB]
    refine cnd_i (fun e => ?_) (fun e => ?_)
    · have e := of_decide_eq_true e
      have : j = m := by
        rcases Nat.lt_or_ge j m with h1 | h1
        · exact absurd e (hc j hjB (Nat.le_refl _) h1).1
        · omega
      subst this
      rw [iaddN, wrapN (by omega), fI_eq]; exact hk
    · have e := of_decide_eq_false e
      have : j ≠ m := fun e' => by subst e'; exact e hq
      obtain ⟨n', rfl⟩ : ∃ n', n = n' + 1 := ⟨n - 1, by omega⟩
      refine j42_2 ?_
      unfold s42_2
      rw [iaddN, wrapN (by omega), fI_eq]
      exact c42_1 hr hl hm hq q1 q2 hk n' (j + 1) (by omega) (by omega) fun x hx h1 h2 => hc x hx (by omega) h2
theorem c42 {h : H} {v : AV} {B : List UInt8} {i m : Nat} {q : UInt8} {k : KV} (hr : Rs h v B) (hl : B.length ≤ 1000000) (hi : i < m) (hm : m < B.length) (hb : B[i] = q) (hq : B[m] = q) (q1 : q ≠ 10) (q2 : q ≠ 92) (hc : ∀ x (hx : x < B.length), i < x → x < m → B[x] ≠ q ∧ B[x] ≠ 10 ∧ B[x] ≠ 92) (hk : k (.int .i64 (Int.ofNat (m + 1))) h) : W1 (.func 42) [v, .int .i64 (Int.ofNat i)] h k := by
  refine w42 (n := 2 * B.length + 4) sw_ok (g42 ?_)
  unfold s42_0
  refine c40 hr ?_
  rw [bt_lt (show i < B.length by omega), hb]
  unfold ub
  rw [asI_k, iaddN, wrapN (by omega), fI_eq]
  exact c42_1 hr hl hm hq q1 q2 hk _ (i + 1) (by omega) hi fun x hx h1 h2 => hc x hx h1 h2
/-! ### comment -/
theorem c27_no {h : H} {v : AV} {B : List UInt8} {i : Nat} {k : KV} (hr : Rs h v B) (hi : i ≤ 1000000) (hc : bt B i ≠ 47 ∨ (bt B (i + 1) ≠ 47 ∧ bt B (i + 1) ≠ 42)) (hk : k (.tuple [.int .i64 (Int.ofNat i), .bool false]) h) : W1 (.func 27) [v, .int .i64 (Int.ofNat i)] h k := by
  refine w27 (n := 1) sw_ok (g27 ?_)
  unfold s27_0
  refine c40 hr ?_
  unfold ub
  rw [asI_k, ieqU _ 47 47 rfl]
  refine cnd_i (fun e => hk) (fun e => ?_)
  have e : bt B i = 47 := by
    by_cases h' : bt B i = 47
    · exact h'
    · rw [show bnot (decide (bt B i = 47)) = true by rw [decide_eq_false h']; rfl] at e; cases e
  have hc : bt B (i + 1) ≠ 47 ∧ bt B (i + 1) ≠ 42 := by
    rcases hc with hc | hc
    · exact absurd e hc
    · exact hc
  rw [iaddN, wrapN (by omega), fI_eq]
  refine c40 hr ?_
  unfold ub
  rw [asI_k, ieqU _ 47 47 rfl, decide_eq_false hc.1]
  refine cnd_f rfl ?_
  rw [fI_eq]
  refine c40 hr ?_
  unfold ub
  rw [asI_k, ieqU _ 42 42 rfl, decide_eq_false hc.2]
  exact cnd_t rfl hk
theorem c27_cc {h : H} {v : AV} {B : List UInt8} {i : Nat} {k : KV} (hr : Rs h v B) (hi : i ≤ 1000000) (hl : i + 3 < B.length) (h0 : B[i] = 47) (h1 : B[i + 1] = 42) (h2 : B[i + 2] = 42) (h3 : B[i + 3] = 47) (hk : k (.tuple [.int .i64 (Int.ofNat (i + 4)), .bool false]) h) : W1 (.func 27) [v, .int .i64 (Int.ofNat i)] h k := by
  refine w27 (n := 2) sw_ok (g27 ?_)
  unfold s27_0
  refine c40 hr ?_
  rw [bt_lt (show i < B.length by omega), h0]
  unfold ub
  rw [asI_k]
  refine cnd_f rfl ?_
  rw [iaddN, wrapN (by omega), fI_eq]
  refine c40 hr ?_
  rw [bt_lt (show i + 1 < B.length by omega), h1]
  unfold ub
  rw [asI_k]
  refine cnd_f rfl ?_
  rw [fI_eq]
  refine c40 hr ?_
  rw [bt_lt (show i + 1 < B.length by omega), h1]
  unfold ub
  rw [asI_k]
  refine cnd_f rfl ?_
  rw [iaddN, wrapN (by omega), fI_eq]
  refine j27_2 ?_
  unfold s27_2
  rw [hr.len, ilt, decide_eq_true (show i + 2 < B.length by omega)]
  refine cnd_t rfl ?_
  rw [natI_eq]
  refine hr.at0 (show i + 2 < B.length by omega) ?_
  rw [h2]
  unfold ub
  rw [asI_k]
  refine and_q (b := true) (fun k' hk' => ?_) ?_
  · rw [iaddN, wrapN (by omega), fI_eq]
    refine c40 hr ?_
    rw [bt_lt (show i + 2 + 1 < B.length by omega), show B[i + 2 + 1] = 47 from h3]
    unfold ub
    rw [asI_k]; exact hk'
  refine cnd_t rfl ?_
  rw [iaddN, wrapN (by omega), fI_eq]
  exact hk
end Go.Den
