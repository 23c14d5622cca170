/-
  A part of the proof: the walk of HeaderBack.
-/
import Derived.Test.YtdpnnajfmkpfjaaGreatDoorHdd
namespace Go.Den
open Go.RowKit
set_option maxRecDepth 100000
noncomputable def Rw (s : List UInt8) (b : Bool) : Ob FT := .row (tlist [S s, .bool b] 0 (tlist [.str 0 0, .bool false] 0 .e)) 2 0 24 true
/-- an answer that is laid aside -/
theorem aside {h : H} {s : List UInt8} {b : Bool} {K : P → H → Prop} (hk : ∀ p h', p.nat < h'.next.nat → h'.at p = Rw s b → Exh h h' → K p h') : Hp.newK h ob24 fun p h1 => stn 2 (.ptr p 0) (.agg [S s, .bool b]) h1 fun h2 => K p h2 := by
  refine newK_i ?_
  have a0 : (h.new ob24).at h.next = R24 := at_new_same _ _
  refine stn_i (c := 2) a0 (Nat.le_refl _) rfl (by decide) (by decide) ?_
  refine hk _ _ (by rw [next_put, next_new]; omega) (at_put_same _ _ _) ⟨by rw [next_put, next_new]; omega, fun c hc => ?_⟩
  rw [at_put_o (fun e => by subst e; exact absurd hc (Nat.lt_irrefl _)), at_new_o hc]
theorem ext_3 {a b c d : AV} {l : List AV} {K : AV → Prop} : ext 3 (.tuple (a :: b :: c :: d :: l)) K = K d := rfl
theorem c3_end {s : List UInt8} {n : Int} {m : Nat} {h : H} (hs : Nm s) (hn : n < 9223372036854775808) : (r3 W1 (fun v _ => v = .bool true) (m + 2)).a1 s.length (enc s) n (Int.ofNat s.length) h := by
  have hls := hs.le
  refine j3_1 ?_
  unfold s3_1
  rw [ilt, decide_eq_false (Nat.lt_irrefl _)]
  refine cnd_f rfl ?_
  refine catS_i (s := [60]) (t := s) (by simp; omega) ?_
  refine catS_i (s := [60] ++ s) (t := [62]) (by simp; omega) ?_
  refine ofN hs fun h1 x1 => ?_
  rw [ext_0, ext_1, asB_b]
  refine aside fun p h2 p2 a2 x2 => ?_
  refine catS_i (s := [34]) (t := s) (by simp; omega) ?_
  refine catS_i (s := [34] ++ s) (t := [34]) (by simp; omega) ?_
  refine ofC hs.ne hs.ok (by omega) fun h3 x3 => ?_
  rw [ext_0, ext_1, asB_b]
  refine aside fun q h4 q4 b4 x4 => ?_
  have x24 := x3.trans x4
  have a4 : h4.at p = Rw s false := by rw [x24.2 p p2]; exact a2
  have p4 : p.nat < h4.next.nat := Nat.lt_of_lt_of_le p2 x24.1
  refine catS_i (s := [60]) (t := s) (by simp; omega) ?_
  refine catS_i (s := [60] ++ s) (t := [62, 32, 120]) (by simp; omega) ?_
  refine ofX hs fun h5 x5 => ?_
  rw [ext_0, ext_1, asB_b]
  refine aside fun _ h6 _ _ x6 => ?_
  refine catS_i (s := [76, 34]) (t := s) (by simp; omega) ?_
  refine catS_i (s := [76, 34] ++ s) (t := [34]) (by simp; omega) ?_
  refine ofL hs fun h7 x7 => ?_
  rw [ext_0, ext_1, asB_b]
  refine aside fun _ h8 _ _ x8 => ?_
  have x48 := x5.trans (x6.trans (x7.trans x8))
  refine lnD hs hn fun h9 x9 => ?_
  have x49 := x48.trans x9
  have a9 : h9.at p = Rw s false := by rw [x49.2 p p4]; exact a4
  have b9 : h9.at q = Rw s true := by rw [x49.2 q q4]; exact b4
  by_cases e : 1 ≤ n ∧ n ≤ 2147483647
  · have hV : lnV n s = .tuple [.int .i64 n, S s, .bool true, .bool true] := if_pos e
    rw [hV, ext_0, asI_k, ext_1, asS_s, ext_2, asB_b, ext_3, asB_b]
    exact c3_3 a9 b9 hV
  · have hV : lnV n s = .tuple [.int .i64 (Int.ofNat 0), S [], .bool false, .bool false] := if_neg e
    rw [hV, ext_0, asI_k, ext_1, asS_s, ext_2, asB_b, ext_3, asB_b]
    exact c3_3 a9 b9 hV
/-! ### The name's signs -/
/-- what the law lets pass -/
noncomputable def badC (s : List UInt8) (i : Nat) : Bool :=
  ((((((decide ((bt s i).toNat < 97) || decide (122 < (bt s i).toNat)) && (decide ((bt s i).toNat < 65) || decide (90 < (bt s i).toNat))) && (decide ((bt s i).toNat < 48) || decide (57 < (bt s i).toNat))) && bnot (decide (bt s i = 46))) && bnot (decide (bt s i = 45))) && bnot (decide (bt s i = 95))) && ((bnot (decide (bt s i = 47)) || (decide (0 < i) && decide (bt s (i - 1) = 47))) || decide (i + 1 = s.length))
theorem nm_of {s : List UInt8} (h0 : s ≠ []) (h60 : s.length ≤ 60) (hl : bt s (s.length - 1) ≠ 45) (h : ∀ i, i < s.length → badC s i = false) : Nm s := by
  have hget : ∀ i (hi : i < s.length), bt s i = s[i] := fun i hi => bt_lt hi
  have key : ∀ i (hi : i < s.length), nameC s[i] = true ∧ (s[i] = 47 → (0 < i → bt s (i - 1) ≠ 47) ∧ i + 1 ≠ s.length) := fun i hi => by
    have hb := h i hi
    rw [badC, hget i hi, Bool.and_eq_false_iff] at hb
    have hn : ∀ x : UInt8, ((((((decide (x.toNat < 97) || decide (122 < x.toNat)) && (decide (x.toNat < 65) || decide (90 < x.toNat))) && (decide (x.toNat < 48) || decide (57 < x.toNat))) && bnot (decide (x = 46))) && bnot (decide (x = 45))) && bnot (decide (x = 95))) = false → nameC x = true ∧ x ≠ 47 := fun x hx => by
      have := all8 (P := fun x => ((((((decide (x.toNat < 97) || decide (122 < x.toNat)) && (decide (x.toNat < 65) || decide (90 < x.toNat))) && (decide (x.toNat < 48) || decide (57 < x.toNat))) && bnot (decide (x = 46))) && bnot (decide (x = 45))) && bnot (decide (x = 95))) || (nameC x && x != 47)) (by kernel_rfl) x
      rw [hx, Bool.false_or, Bool.and_eq_true, bne_iff_ne] at this
      exact this
    rcases hb with hb | hb
    · obtain ⟨a, b⟩ := hn _ hb
      exact ⟨a, fun e => absurd e b⟩
    · rw [Bool.or_eq_false_iff, Bool.or_eq_false_iff] at hb
      obtain ⟨⟨b1, b2⟩, b3⟩ := hb
      have e47 : s[i] = 47 := by
        by_cases e : s[i] = 47
        · exact e
        · rw [decide_eq_false e] at b1; cases b1
      refine ⟨by rw [e47]; decide, fun _ => ⟨fun hpos hc => ?_, of_decide_eq_false b3⟩⟩
      rw [decide_eq_true hpos, decide_eq_true hc] at b2; cases b2
  refine ⟨h0, h60, fun x hx => ?_, fun j hj e => ?_, fun x hx => ?_⟩
  · obtain ⟨i, hi, rfl⟩ := List.getElem_of_mem hx
    exact (key i hi).1
  · have h1 := ((key j hj).2 e).2
    have h2 : j + 1 < s.length := by omega
    refine ⟨h2, fun e2 => ?_⟩
    have := ((key (j + 1) h2).2 e2).1 (by omega)
    rw [Nat.add_sub_cancel, hget j hj] at this
    exact this e
  · have hpos : 0 < s.length := List.length_pos_iff.2 h0
    rw [List.getLast?_eq_getElem?, List.getElem?_eq_getElem (by omega)] at hx
    rw [hget _ (by omega)] at hl
    intro e
    exact hl ((Option.some.inj hx).trans e)
theorem c3_1 {s : List UInt8} {n : Int} (hn : n < 9223372036854775808) (h0 : s ≠ []) (h60 : s.length ≤ 60) (hl : bt s (s.length - 1) ≠ 45) : ∀ (m i : Nat) {h : H}, 2 * (s.length - i) + 2 < m → i ≤ s.length → (∀ j, j < i → badC s j = false) → (r3 W1 (fun v _ => v = .bool true) m).a1 s.length (enc s) n (Int.ofNat i) h
  | 0, _, _, hm, _, _ => absurd hm (Nat.not_lt_zero _)
  | m + 1, i, h, hm, hi, hb => by
    by_cases e : i < s.length
    · obtain ⟨m, rfl⟩ : ∃ m', m = m' + 1 := ⟨m - 1, by omega⟩
      refine j3_1 ?_
      unfold s3_1
      rw [ilt, decide_eq_true e]
      refine cnd_t rfl ?_
      rw [natI_eq]
      refine idxS_i e ?_
      rw [← bt_lt e]
      refine or_b ?_
      refine and_q (b := (decide ((bt s i).toNat < 65) || decide (90 < (bt s i).toNat))) (fun k' hk' => ?_) ?_
      · refine or_b ?_
        rw [ilt, ilt]; exact hk'
      refine and_q (b := (decide ((bt s i).toNat < 48) || decide (57 < (bt s i).toNat))) (fun k' hk' => ?_) ?_
      · refine or_b ?_
        rw [ilt, ilt]; exact hk'
      refine and_b ?_
      refine and_b ?_
      refine and_b ?_
      refine and_q (b := ((bnot (decide (bt s i = 47)) || (decide (0 < i) && decide (bt s (i - 1) = 47))) || decide (i + 1 = s.length))) (fun k' hk' => ?_) ?_
      · refine or_q (b := (decide (0 < i) && decide (bt s (i - 1) = 47))) (fun k'' hk'' => ?_) ?_
        · rw [ilt]
          refine and_i (fun e1 => ?_) (fun e1 => ?_)
          · have e1' : 0 < i := of_decide_eq_true e1
            rw [isubN e1', wrapN (by omega), fI_eq, natI_eq]
            refine idxS_i (show i - 1 < s.length by omega) ?_
            rw [← bt_lt (show i - 1 < s.length by omega), ieqU _ 47 47 rfl]
            rw [e1, Bool.true_and] at hk''; exact hk''
          · rw [e1, Bool.false_and] at hk''; exact hk''
        refine or_q (b := decide (i + 1 = s.length)) (fun k'' hk'' => ?_) ?_
        · rw [iaddN, wrapN (by omega), fI_eq, ieqN]; exact hk''
        rw [ieqU _ 47 47 rfl]; exact hk'
      rw [ilt, ilt, ieqU _ 46 46 rfl, ieqU _ 45 45 rfl, ieqU _ 95 95 rfl]
      refine j3_2 ?_
      unfold s3_2
      show cnd (badC s i) _ _
      refine cnd_i (fun _ => ?_) (fun e2 => ?_)
      · refine use2 c5 ?_
        rfl
      · rw [iaddN, wrapN (by omega), fI_eq]
        refine c3_1 hn h0 h60 hl m (i + 1) (by omega) e fun j hj => ?_
        by_cases e3 : j = i
        · subst e3; exact e2
        · exact hb j (by omega)
    · have e : i = s.length := by omega
      subst e
      obtain ⟨m, rfl⟩ : ∃ m', m = m' + 1 := ⟨m - 1, by omega⟩
      exact c3_end (nm_of h0 h60 hl fun i hi => hb i hi) hn
theorem c3 (s : List UInt8) {n : Int} (hn : n < 9223372036854775808) {h : H} : W1 (.func 3) [S s, .int .i64 n] h (fun v _ => v = .bool true) := by
  refine w3 (n := 2 * s.length + 6) sw_ok (g3 ?_)
  unfold s3_0
  refine or_b ?_
  rw [show strEq s.length (enc s) 0 0 = decide (s = []) from strEq_enc (t := []), ilt]
  refine or_i (fun e => ?_) (fun _ => ?_)
  · rw [Bool.or_eq_false_iff] at e
    have h0 : s ≠ [] := of_decide_eq_false e.1
    have h60 : s.length ≤ 60 := by have := of_decide_eq_false e.2; omega
    have hpos : 0 < s.length := List.length_pos_iff.2 h0
    rw [isubN hpos, wrapN (by omega), fI_eq, natI_eq]
    refine idxS_i (show s.length - 1 < s.length by omega) ?_
    rw [← bt_lt (show s.length - 1 < s.length by omega), ieqU _ 45 45 rfl]
    refine cnd_i (fun _ => ?_) (fun e2 => ?_)
    · refine use2 c5 ?_
      rfl
    · exact c3_1 hn h0 h60 (of_decide_eq_false e2) _ 0 (by omega) (Nat.zero_le _) fun j hj => absurd hj (Nat.not_lt_zero _)
  · refine cnd_t rfl ?_
    refine use2 c5 ?_
    rfl
end Go.Den
