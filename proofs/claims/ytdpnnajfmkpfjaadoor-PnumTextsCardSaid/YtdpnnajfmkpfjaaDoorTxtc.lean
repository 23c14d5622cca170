/-
  A part of the proof: the document's own answer on floating constants; PnumTexts from its argument on.
-/
import Derived.Test.YtdpnnajfmkpfjaaDoorTxtb
namespace Go.Den
open Go.RowKit
set_option maxRecDepth 100000
/-! ### The document's Float -/
def sgn (r : List UInt8) : Nat := match r with
  | [] => 0
  | c :: _ => if c = 43 ∨ c = 45 then 1 else 0
theorem unsL_drop (r : List UInt8) : unsL r = r.drop (sgn r) ∧ sgn r ≤ r.length := by
  cases r with
  | nil => exact ⟨rfl, Nat.le_refl _⟩
  | cons c r =>
    show (if c = 43 ∨ c = 45 then r else c :: r) = (c :: r).drop (if c = 43 ∨ c = 45 then 1 else 0) ∧ (if c = 43 ∨ c = 45 then 1 else 0) ≤ (c :: r).length
    by_cases h : c = 43 ∨ c = 45
    · rw [if_pos h, if_pos h]; exact ⟨rfl, by simp⟩
    · rw [if_neg h, if_neg h]; exact ⟨rfl, by simp⟩
theorem c36_1 {s : List UInt8} {i n : Nat} {k : KV} (hl : s.length ≤ 1099511627776) (hi : i ≤ s.length) (hk : k (.tuple [.int .i64 (Int.ofNat (i + runL (s.drop i) decL)), .bool (decide (0 < runL (s.drop i) decL))]) h0) : (r36 W1 k (n + 1)).a1 s.length (enc s) (Int.ofNat i) h0 := by
  refine j36_1 ?_
  unfold s36_1
  have hr := runL_le (s.drop i) decL
  have hdl : (s.drop i).length = s.length - i := List.length_drop
  refine use2 (c26 (.inr (.inl ⟨rfl, rfl⟩)) s i hi hl) ?_
  rw [asI_k, iaddN, wrapN (by omega), fI_eq, ilt]
  exact hk
theorem c36 (s : List UInt8) (i : Nat) (hl : s.length ≤ 1099511627776) (hi : i ≤ s.length) : Pure PP G h0 36 [S s, .int .i64 (Int.ofNat i)] (.tuple [.int .i64 (Int.ofNat (i + sgn (s.drop i) + runL (unsL (s.drop i)) decL)), .bool (decide (0 < runL (unsL (s.drop i)) decL))]) := by
  refine w36 (n := 2) sw_ok (g36 ?_)
  unfold s36_0
  obtain ⟨hu, hs⟩ := unsL_drop (s.drop i)
  have hdl : (s.drop i).length = s.length - i := List.length_drop
  have fin : cnd (decide (sgn (s.drop i) = 1)) (fI (wrap .i64 (iadd (Int.ofNat i) (Int.ofNat 1))) fun n11 => (r36 W1 (fun v _ => v = .tuple [.int .i64 (Int.ofNat (i + sgn (s.drop i) + runL (unsL (s.drop i)) decL)), .bool (decide (0 < runL (unsL (s.drop i)) decL))]) 1).a1 s.length (enc s) n11 h0) ((r36 W1 (fun v _ => v = .tuple [.int .i64 (Int.ofNat (i + sgn (s.drop i) + runL (unsL (s.drop i)) decL)), .bool (decide (0 < runL (unsL (s.drop i)) decL))]) 1).a1 s.length (enc s) (Int.ofNat i) h0) := by
    have hsg : sgn (s.drop i) = 1 ∨ sgn (s.drop i) = 0 := by
      cases s.drop i with
      | nil => exact .inr rfl
      | cons c r =>
        show (if c = 43 ∨ c = 45 then 1 else 0) = 1 ∨ (if c = 43 ∨ c = 45 then 1 else 0) = 0
        split
        · exact .inl rfl
        · exact .inr rfl
    rw [List.drop_drop] at hu
    refine cnd_i (fun e => ?_) (fun e => ?_)
    · have e := of_decide_eq_true e
      rw [iadd1 (by omega), fI_eq]
      refine c36_1 hl (by omega) ?_
      rw [e] at hu
      rw [hu, e]
    · have e := of_decide_eq_false e
      have e0 : sgn (s.drop i) = 0 := by omega
      refine c36_1 hl hi ?_
      rw [e0] at hu
      rw [hu, e0, Nat.add_zero]
  by_cases h : i < s.length
  · have hd : s.drop i = s[i] :: s.drop (i + 1) := List.drop_eq_getElem_cons h
    have hsg : decide (sgn (s.drop i) = 1) = (decide (s[i] = 43) || decide (s[i] = 45)) := by
      rw [hd]
      show decide ((if s[i] = 43 ∨ s[i] = 45 then 1 else 0) = 1) = _
      by_cases h1 : s[i] = 43 <;> by_cases h2 : s[i] = 45 <;> simp [h1, h2]
    rw [hsg] at fin
    refine and_i (fun _ => ?_) (fun e => by rw [ilt, decide_eq_true h] at e; cases e)
    rw [natI_eq]
    refine idxS_i h ?_
    refine or_q (b := decide (s[i] = 45)) (fun k' hk' => ?_) ?_
    · rw [natI_eq]
      refine idxS_i h ?_
      rw [toNat_eq _ 45 (by decide)]; exact hk'
    rw [toNat_eq _ 43 (by decide)]
    exact fin
  · have hd : s.drop i = [] := by rw [List.drop_eq_nil_iff]; omega
    refine and_i (fun e => by rw [ilt, decide_eq_false h] at e; cases e) (fun _ => ?_)
    have hf : decide (sgn (s.drop i) = 1) = false := by rw [hd]; rfl
    rw [hf] at fin
    exact fin
/-- the two kinds -/
def Kind2 (B : Nat) (set L : List UInt8) : Prop := (B = 10 ∧ set = decL ∧ L = eL) ∨ (B = 16 ∧ set = hexL ∧ L = pL)
theorem Kind2.base {B : Nat} {set L : List UInt8} (h : Kind2 B set L) : Base B set := by
  rcases h with ⟨h1, h2, _⟩ | ⟨h1, h2, _⟩
  · exact .inr (.inl ⟨h1, h2⟩)
  · exact .inr (.inr ⟨h1, h2⟩)
theorem tail_two (a b : UInt8) (r : List UInt8) : tailL (a :: b :: r) = false := by unfold tailL; simp
theorem tail_at {s : List UInt8} {i : Nat} (hl : s.length ≤ 1099511627776) (hi : i ≤ s.length) {h : H} {K : Bool → H → Prop} (hk : K (tailL (s.drop i)) h) :
    joinB (fun k19 => gate false (ibeq (Int.ofNat i) (Int.ofNat s.length))
      (fI (wrap .i64 (iadd (Int.ofNat i) (Int.ofNat 1))) fun n22 =>
        joinB (fun k23 => gate true (ibeq n22 (Int.ofNat s.length))
          (natI (Int.ofNat i) fun m26 => idxS s.length (enc s) m26 fun m27 =>
            joinB (fun k28 => gate false (ibeq (Int.ofNat m27) (Int.ofNat 102)) (natI (Int.ofNat i) fun m31 => idxS s.length (enc s) m31 fun m32 => k28 (ibeq (Int.ofNat m32) (Int.ofNat 70)) h) (k28 true h)) fun b30 h29 =>
            joinB (fun k33 => gate false b30 (natI (Int.ofNat i) fun m36 => idxS s.length (enc s) m36 fun m37 => k33 (ibeq (Int.ofNat m37) (Int.ofNat 108)) h29) (k33 true h29)) fun b35 h34 =>
            joinB (fun k38 => gate false b35 (natI (Int.ofNat i) fun m41 => idxS s.length (enc s) m41 fun m42 => k38 (ibeq (Int.ofNat m42) (Int.ofNat 76)) h34) (k38 true h34)) fun b40 h39 => k23 b40 h39)
          (k23 false h)) fun b25 h24 => k19 b25 h24)
      (k19 true h)) K := by
  rw [ieqN]
  by_cases e : i = s.length
  · subst e
    refine or_i (fun e => by rw [decide_eq_true rfl] at e; cases e) (fun _ => ?_)
    rw [List.drop_length] at hk
    exact hk
  · have hlt : i < s.length := by omega
    have hd : s.drop i = s[i] :: s.drop (i + 1) := List.drop_eq_getElem_cons hlt
    refine or_i (fun _ => ?_) (fun e2 => absurd (of_decide_eq_true e2) e)
    rw [iadd1 (by omega), fI_eq, ieqN]
    by_cases e1 : i + 1 = s.length
    · have hd1 : s.drop (i + 1) = [] := by rw [List.drop_eq_nil_iff]; omega
      rw [hd, hd1] at hk
      have ht : tailL [s[i]] = (decide (s[i] = 102) || decide (s[i] = 70) || decide (s[i] = 108) || decide (s[i] = 76)) := by unfold tailL; simp
      rw [ht] at hk
      refine and_i (fun _ => ?_) (fun e2 => absurd e1 (of_decide_eq_false e2))
      rw [natI_eq]
      refine idxS_i hlt ?_
      have at1 : ∀ (c : Nat) (hc : c < 256) (K : Bool → Prop), K (decide (s[i] = UInt8.ofNat c)) → natI (Int.ofNat i) fun m31 => idxS s.length (enc s) m31 fun m32 => K (ibeq (Int.ofNat m32) (Int.ofNat c)) := by
        intro c hc K hK
        rw [natI_eq]
        refine idxS_i hlt ?_
        rw [toNat_eq _ c hc]; exact hK
      refine or_q (b := decide (s[i] = 70)) (fun k' hk' => at1 70 (by decide) (fun b => k' b h) hk') ?_
      refine or_q (b := decide (s[i] = 108)) (fun k' hk' => at1 108 (by decide) (fun b => k' b h) hk') ?_
      refine or_q (b := decide (s[i] = 76)) (fun k' hk' => at1 76 (by decide) (fun b => k' b h) hk') ?_
      rw [toNat_eq _ 102 (by decide)]
      exact hk
    · refine and_i (fun e2 => absurd (of_decide_eq_true e2) e1) (fun _ => ?_)
      have hlt2 : i + 1 < s.length := by omega
      have ht : tailL (s.drop i) = false := by
        rw [hd, List.drop_eq_getElem_cons hlt2]
        exact tail_two _ _ _
      rw [ht] at hk
      exact hk
section
variable {B : Nat} {s set L : List UInt8} {k : KV} (K2 : Kind2 B set L) (hl : s.length ≤ 1099511627776)
include K2 hl
theorem c17_1 {i n : Nat} {dot has : Bool} (hi : i ≤ s.length) (hk : k (.bool (if (!has && (!dot || decide (set = hexL))) = true then false else tailL (s.drop i))) h0) : (r17 W1 k (n + 1)).a1 s.length (enc s) (Int.ofNat B) (Int.ofNat i) dot has h0 := by
  refine j17_1 ?_
  unfold s17_1
  have hB : decide (B = 16) = decide (set = hexL) := by rcases K2 with ⟨rfl, rfl, _⟩ | ⟨rfl, rfl, _⟩ <;> decide
  refine and_q (b := decide (set = hexL) || !dot) (fun k' hk' => ?_) ?_
  · refine or_b ?_
    rw [ieqN, hB, bnot_eq]; exact hk'
  rw [bnot_eq]
  have hc : (!has && (decide (set = hexL) || !dot)) = (!has && (!dot || decide (set = hexL))) := by rw [Bool.or_comm]
  rw [hc]
  refine cnd_i (fun e => ?_) (fun e => ?_)
  · rw [if_pos e] at hk; exact hk
  · rw [if_neg (by rw [e]; simp)] at hk
    exact tail_at hl hi hk
theorem c17_2 {i n m : Nat} {dot : Bool} (hi : i ≤ s.length) (hk : k (.bool (finL set L n dot (s.drop i))) h0) : (r17 W1 k (m + 2)).a2 s.length (enc s) (Int.ofNat B) (Int.ofNat n) (Int.ofNat i) dot h0 := by
  refine j17_2 ?_
  unfold s17_2
  rw [ieqN]
  refine cnd_i (fun e => ?_) (fun e => ?_)
  · unfold finL at hk
    rw [if_pos (by rw [e]; rfl)] at hk
    exact hk
  · have hfin : finL set L n dot (s.drop i) = if (!(expL (s.drop i) L).2 && (!dot || decide (set = hexL))) = true then false else tailL (expL (s.drop i) L).1 := by
      unfold finL
      rw [e, Bool.false_or]
    rw [hfin] at hk
    have hdl : (s.drop i).length = s.length - i := List.length_drop
    -- is there an exponent's letter?
    have letK : ∀ (hh : i < s.length) (K : Bool → H → Prop), K (decide (s[i] ∈ L)) h0 → (natI (Int.ofNat B) fun _ => joinB (fun k46 => gate true (ibeq (Int.ofNat B) (Int.ofNat 10)) (natI (Int.ofNat i) fun m49 => idxS s.length (enc s) m49 fun m50 => joinB (fun k51 => gate false (ibeq (Int.ofNat m50) (Int.ofNat 101)) (natI (Int.ofNat i) fun m54 => idxS s.length (enc s) m54 fun m55 => k51 (ibeq (Int.ofNat m55) (Int.ofNat 69)) h0) (k51 true h0)) fun b53 h52 => k46 b53 h52) (k46 false h0)) fun b48 h47 =>
        joinB (fun k56 => gate false b48 (joinB (fun k59 => gate true (ibeq (Int.ofNat B) (Int.ofNat 16)) (natI (Int.ofNat i) fun m62 => idxS s.length (enc s) m62 fun m63 => joinB (fun k64 => gate false (ibeq (Int.ofNat m63) (Int.ofNat 112)) (natI (Int.ofNat i) fun m67 => idxS s.length (enc s) m67 fun m68 => k64 (ibeq (Int.ofNat m68) (Int.ofNat 80)) h47) (k64 true h47)) fun b66 h65 => k59 b66 h65) (k59 false h47)) fun b61 h60 => k56 b61 h60) (k56 true h47)) K) := by
      intro hh K hK
      have at1 : ∀ (c : Nat) (hc : c < 256) (K : Bool → Prop), K (decide (s[i] = UInt8.ofNat c)) → natI (Int.ofNat i) fun m31 => idxS s.length (enc s) m31 fun m32 => K (ibeq (Int.ofNat m32) (Int.ofNat c)) := by
        intro c hc K hK
        rw [natI_eq]
        refine idxS_i hh ?_
        rw [toNat_eq _ c hc]; exact hK
      rw [natI_eq]
      rcases K2 with ⟨rfl, rfl, rfl⟩ | ⟨rfl, rfl, rfl⟩
      · have hm : decide (s[i] ∈ eL) = (decide (s[i] = 101) || decide (s[i] = 69)) := by simp [eL]
        rw [hm] at hK
        refine and_i (fun _ => ?_) (fun e => by cases e)
        rw [natI_eq]
        refine idxS_i hh ?_
        refine or_q (b := decide (s[i] = 69)) (fun k' hk' => at1 69 (by decide) (fun b => k' b h0) hk') ?_
        rw [toNat_eq _ 101 (by decide)]
        refine or_q (b := false) (fun k' hk' => ?_) ?_
        · refine and_i (fun e => by cases e) (fun _ => hk')
        rw [Bool.or_false]; exact hK
      · have hm : decide (s[i] ∈ pL) = (decide (s[i] = 112) || decide (s[i] = 80)) := by simp [pL]
        rw [hm] at hK
        refine and_i (fun e => by cases e) (fun _ => ?_)
        refine or_i (fun _ => ?_) (fun e => by cases e)
        refine and_i (fun _ => ?_) (fun e => by cases e)
        rw [natI_eq]
        refine idxS_i hh ?_
        refine or_q (b := decide (s[i] = 80)) (fun k' hk' => at1 80 (by decide) (fun b => k' b h0) hk') ?_
        rw [toNat_eq _ 112 (by decide)]
        exact hK
    by_cases h : i < s.length
    · have hd : s.drop i = s[i] :: s.drop (i + 1) := List.drop_eq_getElem_cons h
      refine and_i (fun _ => ?_) (fun e => by rw [ilt, decide_eq_true h] at e; cases e)
      refine letK h _ ?_
      refine cnd_i (fun e1 => ?_) (fun e1 => ?_)
      · have hin : s[i] ∈ L := of_decide_eq_true e1
        rw [hd, expL_in hin] at hk
        rw [iadd1 (by omega), fI_eq]
        refine use2 (c36 s (i + 1) hl (by omega)) ?_
        rw [ext_0, asI_k, ext_1, asB_b, bnot_eq]
        obtain ⟨hu, hsg⟩ := unsL_drop (s.drop (i + 1))
        have hr := runL_le (unsL (s.drop (i + 1))) decL
        have hul : (unsL (s.drop (i + 1))).length = s.length - (i + 1) - sgn (s.drop (i + 1)) := by rw [hu, List.length_drop, List.length_drop]
        rw [List.length_drop] at hsg
        refine cnd_i (fun e2 => ?_) (fun e2 => ?_)
        · have e2 : runL (unsL (s.drop (i + 1))) decL = 0 := by
            have : ¬ 0 < runL (unsL (s.drop (i + 1))) decL := by simpa using e2
            omega
          rw [if_pos e2] at hk
          have ht : tailL (s[i] :: s.drop (i + 1)) = false := by
            have : s[i] = 101 ∨ s[i] = 69 ∨ s[i] = 112 ∨ s[i] = 80 := by
              rcases K2 with ⟨_, _, rfl⟩ | ⟨_, _, rfl⟩
              · simp [eL] at hin; rcases hin with h | h <;> simp [h]
              · simp [pL] at hin; rcases hin with h | h <;> simp [h]
            unfold tailL
            rcases this with h | h | h | h <;> (rw [h]; simp)
          have hk : k (.bool (if (!false && (!dot || decide (set = hexL))) = true then false else tailL (s[i] :: s.drop (i + 1)))) h0 := hk
          rw [ht, ite_self] at hk
          exact hk
        · have e2 : 0 < runL (unsL (s.drop (i + 1))) decL := by simpa using e2
          rw [if_neg (show ¬ runL (unsL (s.drop (i + 1))) decL = 0 by omega)] at hk
          refine c17_1 K2 hl (i := i + 1 + sgn (s.drop (i + 1)) + runL (unsL (s.drop (i + 1))) decL) (dot := dot) (has := decide (s[i] ∈ L)) (by omega) ?_
          rw [e1]
          have hdd : s.drop (i + 1 + sgn (s.drop (i + 1)) + runL (unsL (s.drop (i + 1))) decL) = (unsL (s.drop (i + 1))).drop (runL (unsL (s.drop (i + 1))) decL) :=
            ((congrArg (List.drop (runL (unsL (s.drop (i + 1))) decL)) hu).trans (by rw [List.drop_drop, List.drop_drop, Nat.add_assoc (i + 1)])).symm
          rw [hdd]
          exact hk
      · have hin : s[i] ∉ L := of_decide_eq_false e1
        rw [hd, expL_out hin] at hk
        refine c17_1 K2 hl hi ?_
        rw [e1, hd]
        exact hk
    · have hd : s.drop i = [] := by rw [List.drop_eq_nil_iff]; omega
      refine and_i (fun e => by rw [ilt, decide_eq_false h] at e; cases e) (fun _ => ?_)
      refine cnd_f rfl ?_
      refine c17_1 K2 hl hi ?_
      rw [hd] at hk ⊢
      exact hk
theorem c17_3 {at' m : Nat} (hat : at' ≤ s.length) (hk : k (.bool (floatR set L (s.drop at'))) h0) : (r17 W1 k (m + 3)).a3 s.length (enc s) (Int.ofNat B) (Int.ofNat at') h0 := by
  refine j17_3 ?_
  unfold s17_3
  refine use2 (c26 K2.base s at' hat hl) ?_
  have hr := runL_le (s.drop at') set
  have hdl : (s.drop at').length = s.length - at' := List.length_drop
  rw [asI_k, iaddN, wrapN (by omega), fI_eq]
  have hdd : s.drop (at' + runL (s.drop at') set) = (s.drop at').drop (runL (s.drop at') set) := by rw [List.drop_drop]
  unfold floatR at hk
  rw [← hdd] at hk
  by_cases h : at' + runL (s.drop at') set < s.length
  · have hd : s.drop (at' + runL (s.drop at') set) = s[at' + runL (s.drop at') set] :: s.drop (at' + runL (s.drop at') set + 1) := List.drop_eq_getElem_cons h
    refine and_i (fun _ => ?_) (fun e => by rw [ilt, decide_eq_true h] at e; cases e)
    rw [natI_eq]
    refine idxS_i h ?_
    rw [toNat_eq _ 46 (by decide)]
    refine cnd_i (fun e => ?_) (fun e => ?_)
    · have e1 : s[at' + runL (s.drop at') set] = 46 := of_decide_eq_true e
      have ht : (s.drop (at' + runL (s.drop at') set)).take 1 = [46] := by rw [hd, e1]; rfl
      have hd1 : (s.drop (at' + runL (s.drop at') set)).drop 1 = s.drop (at' + runL (s.drop at') set + 1) := by rw [List.drop_drop]
      rw [if_pos ht, hd1] at hk
      rw [iadd1 (by omega), fI_eq]
      refine use2 (c26 K2.base s _ (by omega) hl) ?_
      have hr2 := runL_le (s.drop (at' + runL (s.drop at') set + 1)) set
      rw [List.length_drop] at hr2
      rw [asI_k, iaddN, wrapN (by omega), fI_eq, fI_eq, iaddN, wrapN (by omega), fI_eq]
      refine c17_2 K2 hl (dot := decide (s[at' + runL (s.drop at') set] = UInt8.ofNat 46)) (by omega) ?_
      rw [e]
      rw [List.drop_drop, show at' + runL (s.drop at') set + (1 + runL (s.drop (at' + runL (s.drop at') set + 1)) set) = at' + runL (s.drop at') set + 1 + runL (s.drop (at' + runL (s.drop at') set + 1)) set by omega] at hk
      exact hk
    · have e1 : ¬ s[at' + runL (s.drop at') set] = 46 := of_decide_eq_false e
      have ht : ¬ (s.drop (at' + runL (s.drop at') set)).take 1 = [46] := by
        rw [hd]; intro h2; exact e1 (List.cons.inj (show [s[at' + runL (s.drop at') set]] = [46] from h2)).1
      rw [if_neg ht] at hk
      refine c17_2 K2 hl (dot := decide (s[at' + runL (s.drop at') set] = UInt8.ofNat 46)) (by omega) ?_
      rw [e]
      exact hk
  · have hd : s.drop (at' + runL (s.drop at') set) = [] := by rw [List.drop_eq_nil_iff]; omega
    refine and_i (fun e => by rw [ilt, decide_eq_false h] at e; cases e) (fun _ => ?_)
    refine cnd_f rfl ?_
    rw [if_neg (by rw [hd]; simp)] at hk
    exact c17_2 K2 hl (by omega) hk
end
theorem c17 (s : List UInt8) (hl : s.length ≤ 1099511627776) : Pure PP G h0 17 [S s] (.bool (floatL s)) := by
  refine w17 (n := 4) sw_ok (g17 ?_)
  unfold s17_0
  have fin : cnd (hexedL s) ((r17 W1 (fun v _ => v = .bool (floatL s)) 3).a3 s.length (enc s) (Int.ofNat 16) (Int.ofNat 2) h0) ((r17 W1 (fun v _ => v = .bool (floatL s)) 3).a3 s.length (enc s) (Int.ofNat 10) (Int.ofNat 0) h0) := by
    refine cnd_i (fun e => ?_) (fun e => ?_)
    · have h2 : 2 ≤ s.length := by
        have e := e
        unfold hexedL at e
        rw [Bool.or_eq_true, decide_eq_true_eq, decide_eq_true_eq] at e
        rcases e with e | e <;> (have := congrArg List.length e; simp [hx1, hx2] at this; omega)
      refine c17_3 (.inr ⟨rfl, rfl, rfl⟩) hl h2 ?_
      show AV.bool _ = AV.bool _
      unfold floatL; rw [if_pos e]
    · refine c17_3 (.inl ⟨rfl, rfl, rfl⟩) hl (Nat.zero_le _) ?_
      show AV.bool _ = AV.bool _
      unfold floatL; rw [if_neg (by rw [e]; simp)]; rfl
  match s, hl, fin with
  | [], hl, fin =>
    refine and_i (fun e => by cases e) (fun _ => ?_)
    refine and_i (fun e => by cases e) (fun _ => ?_)
    exact fin
  | [c], hl, fin =>
    refine and_i (fun e => by cases e) (fun _ => ?_)
    refine and_i (fun e => by cases e) (fun _ => ?_)
    have hx : hexedL [c] = false := by unfold hexedL hx1 hx2; simp
    rw [hx] at fin
    exact fin
  | c :: d :: r, hl, fin =>
    have hx : hexedL (c :: d :: r) = (decide (c = 48) && (decide (d = 120) || decide (d = 88))) := by
      unfold hexedL hx1 hx2
      by_cases h1 : c = 48 <;> simp [h1]
    rw [hx] at fin
    refine and_q (b := decide (c = 48)) (fun k' hk' => ?_) ?_
    · refine idxS_i (s := c :: d :: r) (Nat.zero_lt_succ _) ?_
      rw [List.getElem_cons_zero, toNat_eq _ 48 (by decide)]; exact hk'
    rw [ilt, decide_eq_true (show 1 < (c :: d :: r).length by simp), Bool.true_and]
    refine and_q (b := decide (d = 120) || decide (d = 88)) (fun k' hk' => ?_) ?_
    · refine idxS_i (s := c :: d :: r) (by simp) ?_
      refine or_q (b := decide (d = 88)) (fun k'' hk'' => ?_) ?_
      · refine idxS_i (s := c :: d :: r) (by simp) ?_
        show k'' (ibeq (Int.ofNat d.toNat) (Int.ofNat 88)) _
        rw [toNat_eq _ 88 (by decide)]; exact hk''
      show k' (ibeq (Int.ofNat d.toNat) (Int.ofNat 120) || decide (d = 88)) _
      rw [toNat_eq _ 120 (by decide)]; exact hk'
    exact fin
end Go.Den
namespace Go.Den
open Go.RowKit
set_option maxRecDepth 100000
/-! ### The law -/
theorem tg0 (a b : AV) (t : Tm) : tget (tlist [a, b] 0 t) 0 = a := by rw [tget_tlist]; simp
theorem tg1 (a b : AV) (t : Tm) : tget (tlist [a, b] 0 t) 1 = b := by rw [tget_tlist]; simp
theorem c15 (n : Int) (b : Bool) : Pure PP G h0 15 [.agg [.int .u64 n, .bool b], .agg [.int .u64 n, .bool b]] (.bool true) := by
  refine w15 (n := 1) sw_ok (g15 ?_)
  unfold s15_0
  rw [asG_a, show Nat.ble 1 (len [AV.int .u64 n, .bool b]) = true from rfl, chk_t]
  refine newK_i ?_
  rw [asG_a, show Nat.ble 1 (len [AV.int .u64 n, .bool b]) = true from rfl, chk_t]
  refine newK_i ?_
  have a1 : (h0.new (rowOf 25 [.int .u64 n, .bool b])).at h0.next = .row (tlist [.int .u64 n, .bool b] 0 .e) 2 0 25 true := at_new_same _ _
  have a2 : ((h0.new (rowOf 25 [.int .u64 n, .bool b])).new (rowOf 28 [.int .u64 n, .bool b])).at h0.next = .row (tlist [.int .u64 n, .bool b] 0 .e) 2 0 25 true := by
    rw [at_new_o (by rw [next_new]; omega)]; exact a1
  have a3 : ((h0.new (rowOf 25 [.int .u64 n, .bool b])).new (rowOf 28 [.int .u64 n, .bool b])).at (h0.new (rowOf 25 [.int .u64 n, .bool b])).next = .row (tlist [.int .u64 n, .bool b] 0 .e) 2 0 28 true := at_new_same _ _
  rw [fAddr_0]
  refine ld1_i a2 (by decide) ?_
  rw [tg0, asI_k, fAddr_0]
  refine ld1_i a3 (by decide) ?_
  rw [tg0, asI_k, show ibeq n n = true by rw [ibeq_eq]; simp]
  refine and_q (b := true) (fun k' hk' => ?_) ?_
  · rw [fAddr_1]
    refine ld1_i a2 (by decide) ?_
    rw [tg1, asB_b, fAddr_1]
    refine ld1_i a3 (by decide) ?_
    rw [tg1, asB_b, eqBB, oV_some, asB_b, beqB_self]
    exact hk'
  rfl
theorem new2e {h : H} {e : TypeId} {a b : AV} {K : H → Prop} (hk : ∀ h', h'.at h.next = .row (tlist [a, b] 0 (tlist [.int .u64 (Int.ofNat 0), .bool false] 0 .e)) 2 0 e true → h'.next.nat = h.next.nat + 1 → (∀ c, c.nat < h.next.nat → h'.at c = h.at c) → K h') : stn 2 (.ptr h.next 0) (.agg [a, b]) (h.new (rowOf e [.int .u64 (Int.ofNat 0), .bool false])) K := by
  refine stn_i (at_new_same h (rowOf e [.int .u64 (Int.ofNat 0), .bool false])) (Nat.le_refl _) rfl (by decide) (by decide) ?_
  refine hk _ (at_put_same _ _ _) (next_new (o := rowOf e [.int .u64 (Int.ofNat 0), .bool false])) fun c hc => ?_
  rw [at_put_o (fun e => by subst e; exact absurd hc (Nat.lt_irrefl _)), at_new_o hc]
theorem num_form (o : Option (Nat × Bool)) : ∃ a b c, numV o = .tuple [.agg [.int .u64 a, .bool b], .bool c] := by
  cases o with
  | none => exact ⟨Int.ofNat 0, false, false, rfl⟩
  | some p => exact ⟨Int.ofNat p.1, p.2, true, rfl⟩
theorem char_form (o : Option (Int × Bool)) : ∃ a b c, charV o = .tuple [.agg [.int .u64 a, .bool b], .bool c] := by
  cases o with
  | none => exact ⟨Int.ofNat 0, false, false, rfl⟩
  | some p => exact ⟨p.1, p.2, true, rfl⟩
theorem byt_form (o : Option (List UInt8)) : ∃ l c, bytV o = .tuple [S l, .bool c] := by
  cases o with
  | none => exact ⟨[], false, rfl⟩
  | some l => exact ⟨l, true, rfl⟩
theorem c3 (s : List UInt8) : SW PP G (.func 3) [S s] h1 fun r _ => r = .bool true := by
  refine w3 (n := 1) sw_ok (g3 ?_)
  unfold s3_0
  rw [ilt]
  refine cnd_i (fun _ => ?_) (fun e => ?_)
  · refine use2 c8 ?_
    rw [asB_b]
  · have hl : ¬ 400 < s.length := of_decide_eq_false e
    refine pure_use1 (c9 s (by omega)) rfl (plain_numV _) hasE_h1 ?_
    have plc := charV_num (charL s)
    have plb : plain (bytV (bytL s)) = true := by cases bytL s <;> rfl
    have pln := plain_numV (numR s)
    have e10 := num_same s
    obtain ⟨a, b, c, e1⟩ := num_form (numL s)
    obtain ⟨a', b', c', e2⟩ := char_form (charL s)
    obtain ⟨l, c'', e3⟩ := byt_form (bytL s)
    rw [e1, ext_0, ext_1, asB_b]
    refine newK_i ?_
    refine new2e fun ha ra na fa => ?_
    refine use2 (c10 s (by omega)) ?_ rfl pln
    rw [e10, e1, ext_0, ext_1, asB_b]
    refine newK_i ?_
    refine new2e fun hb rb nb fb => ?_
    refine use2 (c11 s (by omega)) ?_ rfl plc
    rw [e2, ext_0, ext_1, asB_b]
    refine newK_i ?_
    refine new2e fun hc rc nc fc => ?_
    refine use2 (c12 s (by omega)) ?_ rfl plc
    rw [e2, ext_0, ext_1, asB_b]
    refine newK_i ?_
    refine new2e fun hd rd nd fd => ?_
    refine use2 (c13 s (by omega)) ?_ rfl plb
    rw [e3, ext_0, asS_s, ext_1, asB_b]
    refine use2 (c14 s (by omega)) ?_ rfl plb
    rw [e3, ext_0, asS_s, ext_1, asB_b]
    have ra' : hd.at h1.next = ha.at h1.next := by rw [fd _ (by omega), fc _ (by omega), fb _ (by omega)]
    have rb' : hd.at ha.next = hb.at ha.next := by rw [fd _ (by omega), fc _ (by omega)]
    have rc' : hd.at hb.next = hc.at hb.next := by rw [fd _ (by omega)]
    refine ldn_i (ra'.trans ra) (by decide) ?_
    refine ldn_i (rb'.trans rb) (by decide) ?_
    rw [gc2]
    refine use2 (c15 _ _) ?_
    rw [asB_b]
    refine and_q (b := true) (fun k' hk' => ?_) ?_
    · rw [eqBB, oV_some, asB_b, beqB_self]; exact hk'
    refine and_q (b := true) (fun k' hk' => ?_) ?_
    · refine ldn_i (rc'.trans rc) (by decide) ?_
      refine ldn_i rd (by decide) ?_
      rw [gc2]
      refine use2 (c15 _ _) ?_
      rw [asB_b]; exact hk'
    refine and_q (b := true) (fun k' hk' => ?_) ?_
    · rw [eqBB, oV_some, asB_b, beqB_self]; exact hk'
    refine and_q (b := true) (fun k' hk' => ?_) ?_
    · rw [strEq_enc, decide_eq_true rfl]; exact hk'
    refine and_q (b := true) (fun k' hk' => ?_) ?_
    · rw [eqBB, oV_some, asB_b, beqB_self]; exact hk'
    refine and_q (b := true) (fun k' hk' => ?_) ?_
    · refine use2 (c16 s (by omega)) ?_
      rw [asB_b]
      refine use2 (c17 s (by omega)) ?_
      rw [asB_b, eqBB, oV_some, asB_b, beqB_self]; exact hk'
    refine and_q (b := true) (fun k' hk' => ?_) ?_
    · refine use2 c8 ?_
      rw [asB_b]; exact hk'
    rfl
end Go.Den
