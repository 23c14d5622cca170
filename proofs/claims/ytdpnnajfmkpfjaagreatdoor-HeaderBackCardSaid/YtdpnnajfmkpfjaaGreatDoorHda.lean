/-
  A part of the proof: numbers as texts, and back.
-/
import Derived.Test.YtdpnnajfmkpfjaaGreatDoorNums
import Derived.Test.YtdpnnajfmkpfjaaGreatDoorLexd
namespace Go.Den
open Go.RowKit
set_option maxRecDepth 100000
theorem rtrim_dec {s : List UInt8} (h : ∀ x ∈ s, x ∈ decL) : rtrim s decL = [] := by
  unfold rtrim
  have key : ∀ l : List UInt8, (∀ x ∈ l, x ∈ decL) → l.dropWhile (· ∈ decL) = [] := by
    intro l
    induction l with
    | nil => intro _; rfl
    | cons x l ih => intro h; rw [List.dropWhile_cons, if_pos (by simpa using h x List.mem_cons_self)]; exact ih fun y hy => h y (List.mem_cons_of_mem _ hy)
  rw [key _ fun x hx => h x (List.mem_reverse.1 hx)]; rfl
theorem c30 {s : List UInt8} (h : ∀ x ∈ s, x ∈ decL) (hne : s ≠ []) (hl : s.length ≤ 1000000) : Pure PP G h0 30 [S s, S decL] (S []) := by
  refine w30 (n := 1) sw_ok (g30 ?_)
  unfold s30_0
  have e1 : strEq s.length (enc s) 0 0 = decide (s = []) := strEq_enc (t := [])
  rw [e1, decide_eq_false hne]
  refine or_b ?_
  refine cnd_f rfl ?_
  refine and_i (fun e => nomatch e) (fun _ => ?_)
  refine cnd_f rfl ?_
  refine use2 dec_ok ?_
  rw [ext_0, ext_1, asB_b]
  refine newK_i ?_
  refine new_fill (zs := List.replicate 256 (.bool false)) (by simp) (tbl_len _) (by omega) ?_
  intro h' ha
  refine cnd_t rfl ?_
  have ht : ∀ x : UInt8, tget (tlist (tbl decL) 0 (tlist (List.replicate 256 (.bool false)) 0 .e)) x.toNat = .bool (decide (x ∈ decL)) := fun x => by
    rw [tget_tlist, if_pos ⟨Nat.zero_le _, by rw [tbl_len]; have := x.toNat_lt; omega⟩, Nat.sub_zero]
    exact tbl_get decL x
  refine w51 (n := s.length + 2) sw_ok (g51 ?_)
  unfold s51_0
  refine c51_1 (set := decL) ha ht _ s (by omega) (by omega) ?_
  rw [rtrim_dec h, asS_s]
  refine w50 (n := 2) sw_ok (g50 ?_)
  unfold s50_0
  refine c50 (set := decL) ha ht [] _ (by decide) ?_
  exact asS_s.mpr rfl
/-! ### ParseInt and Atoi, of digits that fit -/
theorem shl63 {K : Int → Prop} : shlI .u64 (Int.ofNat 1) (Int.ofNat 63) K = K (Int.ofNat 9223372036854775808) := by
  show fI (wrap .u64 (1 * 2 ^ (min 63 IntKind.u64.bits))) K = _
  rw [fI_eq]
  congr 1
theorem dec_set {s : List UInt8} (h : ∀ x ∈ s, x ∈ decL) : ∀ x ∈ s, x ∈ hexL ∧ digN x < 10 := by
  have key : ∀ x ∈ decL, x ∈ hexL ∧ digN x < 10 := by decide
  exact fun x hx => key x (h x hx)
theorem c67_ {s : List UInt8} {h : H} {k : KV} (hs : ∀ x ∈ s, x ∈ decL) (hne : s ≠ []) (hl : s.length ≤ 1000000) (hv : valN 10 0 s < 9223372036854775808) (hk : ∀ h', Exh h h' → k (.tuple [.int .i64 (Int.ofNat (valN 10 0 s)), .nili]) h') : W1 (.func 67) [S s, .int .i64 (Int.ofNat 10), .int .i64 (Int.ofNat 0)] h k := by
  obtain ⟨x, r, rfl⟩ : ∃ x r, s = x :: r := by cases s with
    | nil => exact absurd rfl hne
    | cons x r => exact ⟨x, r, rfl⟩
  have hx : x ∈ decL := hs x List.mem_cons_self
  have hxd : x ≠ 43 ∧ x ≠ 45 := (show ∀ x ∈ decL, x ≠ 43 ∧ x ≠ 45 by decide) x hx
  refine w67 (n := 8) sw_ok (g67 ?_)
  unfold s67_0
  rw [strEq_cons]
  refine cnd_f rfl ?_
  refine idxS_i (Nat.zero_lt_succ _) ?_
  rw [show ibeq (Int.ofNat ((x :: r)[0]).toNat) (Int.ofNat 43) = decide (x = 43) from ieqU x 43 43 rfl, decide_eq_false hxd.1]
  refine cnd_f rfl ?_
  rw [show ibeq (Int.ofNat ((x :: r)[0]).toNat) (Int.ofNat 45) = decide (x = 45) from ieqU x 45 45 rfl, decide_eq_false hxd.2]
  refine cnd_f rfl ?_
  refine j67_3 ?_
  unfold s67_3
  refine c82z (B := 10) (by omega) hne (dec_set hs) (by omega) fun h' xf => ?_
  unfold puV
  rw [if_pos (by omega), ext_0, asI_k, ext_1, neq50n, oV_some, asB_b]
  refine and_i (fun e => nomatch e) (fun _ => ?_)
  refine cnd_f rfl ?_
  refine cnd_t rfl ?_
  refine j67_2 ?_
  unfold s67_2
  rw [show wrap .i64 (isub (Int.ofNat 64) (Int.ofNat 1)) = Int.ofNat 63 by kernel_rfl, fI_eq, show wrap .u64 (Int.ofNat 63) = Int.ofNat 63 by kernel_rfl, fI_eq, shl63]
  refine and_b ?_
  rw [ile, decide_eq_false (by omega)]
  refine cnd_f rfl ?_
  refine and_i (fun e => nomatch e) (fun _ => ?_)
  refine cnd_f rfl ?_
  rw [wrapN (by omega), fI_eq]
  refine cnd_f rfl ?_
  refine j67_1 ?_
  unfold s67_1
  exact hk _ ⟨xf.1, xf.2⟩
theorem valN_cons (B : Nat) (x : UInt8) (l : List UInt8) (v : Nat) : valN B v (x :: l) = valN B (v * B + digN x) l := rfl
theorem dig_dec : ∀ x ∈ decL, digN x = x.toNat - 48 ∧ 48 ≤ x.toNat ∧ x.toNat ≤ 57 := by decide
theorem c54_1 {s s0 : List UInt8} {x : UInt8} {q : P} {t : Tm} {h : H} {k : KV} (hs : ∀ x ∈ s, x ∈ decL) (hl : s.length ≤ 1000000) (ha : h.at q = .row t s.length 0 TB false) (hc : CellsAre t s) (hx : s0 = x :: s0.tail) (h45 : x ≠ 45) (hv : valN 10 0 s < 9223372036854775808)
    (hk : k (.tuple [.int .i64 (Int.ofNat (valN 10 0 s)), .nili]) h) : ∀ (n i v : Nat), s.length - i + 1 < n → i ≤ s.length → valN 10 v (s.drop i) = valN 10 0 s → (r54 W1 k n).a1 s0.length (enc s0) (Int.ofNat v) (.slice q 0 s.length 1 false) (Int.ofNat s.length) (Int.ofNat i) h
  | 0, _, _, hn, _, _ => absurd hn (Nat.not_lt_zero _)
  | n + 1, i, v, hn, hi, hval => by
    have hvle := valN_ge (B := 10) (by decide) (s.drop i) v
    rw [hval] at hvle
    refine j54_1 ?_
    unfold s54_1
    rw [ilt]
    refine cnd_i (fun e => ?_) (fun e => ?_)
    · have e : i < s.length := of_decide_eq_true e
      have hd : s.drop i = s[i] :: s.drop (i + 1) := List.drop_eq_getElem_cons e
      obtain ⟨d1, d2, d3⟩ := dig_dec _ (hs _ (List.getElem_mem e))
      rw [hd, valN_cons] at hval
      have hvle2 := valN_ge (B := 10) (by decide) (s.drop (i + 1)) (v * 10 + digN s[i])
      rw [hval] at hvle2
      rw [natI_eq]
      refine row_get ha (Nat.le_refl _) hc e rfl ?_
      rw [asI_u, isubN d2, wrap8 (by omega), fI_eq, ilt, decide_eq_false (by omega)]
      refine cnd_f rfl ?_
      rw [show (Int.ofNat v * Int.ofNat 10 : Int) = Int.ofNat (v * 10) from rfl, wrapN (by omega), fI_eq, wrapN (by omega), fI_eq, iaddN, wrapN (by omega), fI_eq, iaddN, wrapN (by omega), fI_eq]
      refine c54_1 hs hl ha hc hx h45 hv hk n (i + 1) _ (by omega) e ?_
      rw [← d1]; exact hval
    · have e : i = s.length := by have := of_decide_eq_false e; omega
      subst e
      rw [List.drop_length] at hval
      have hval : v = valN 10 0 s := hval
      subst hval
      have h0 : 0 < s0.length := by rw [hx]; exact Nat.zero_lt_succ _
      refine idxS_i h0 ?_
      have e0 : s0[0] = x := by
        have h1 : s0[0]? = some x := by rw [hx]; rfl
        rw [List.getElem?_eq_getElem h0] at h1; exact Option.some.inj h1
      rw [e0, ieqU x 45 45 rfl, decide_eq_false h45]
      refine cnd_f rfl ?_
      obtain ⟨m, rfl⟩ : ∃ m, n = m + 1 := ⟨n - 1, by omega⟩
      refine j54_2 ?_
      unfold s54_2
      exact hk
theorem c54_ {s : List UInt8} {h : H} {k : KV} (hs : ∀ x ∈ s, x ∈ decL) (hne : s ≠ []) (hl : s.length ≤ 1000000) (hv : valN 10 0 s < 9223372036854775808) (hk : ∀ h', Exh h h' → k (.tuple [.int .i64 (Int.ofNat (valN 10 0 s)), .nili]) h') : W1 (.func 54) [S s] h k := by
  obtain ⟨x, r, e⟩ : ∃ x r, s = x :: r := by cases s with
    | nil => exact absurd rfl hne
    | cons x r => exact ⟨x, r, rfl⟩
  have hx : x ∈ decL := hs x (by rw [e]; exact List.mem_cons_self)
  have hxd : x ≠ 43 ∧ x ≠ 45 := (show ∀ x ∈ decL, x ≠ 43 ∧ x ≠ 45 by decide) x hx
  have hpos : 0 < s.length := List.length_pos_iff.2 hne
  have e0 : s[0] = x := by simp only [e, List.getElem_cons_zero]
  refine w54 (n := s.length + 8) sw_ok (g54 ?_)
  unfold s54_0
  refine and_i (fun e => nomatch e) (fun _ => ?_)
  refine or_i (fun _ => ?_) (fun e => nomatch e)
  refine and_i (fun _ => ?_) (fun e => nomatch e)
  refine and_b ?_
  rw [ilt, ilt, decide_eq_true hpos, Bool.true_and]
  refine cnd_i (fun _ => ?_) (fun _ => ?_)
  · refine idxS_i hpos ?_
    refine or_q (b := decide (x = 43)) (fun k' hk' => ?_) ?_
    · refine idxS_i hpos ?_
      rw [e0, ieqU x 43 43 rfl]; exact hk'
    rw [e0, ieqU x 45 45 rfl, decide_eq_false hxd.1, decide_eq_false hxd.2]
    refine cnd_f rfl ?_
    refine j54_3 ?_
    unfold s54_3
    rw [cv9, oK_some, lenV_sl, bytes_enc]
    exact c54_1 (x := x) hs hl (at_new_same _ _) (CellsAre.new s .e) (by rw [e]; rfl) hxd.2 hv (hk _ Exh.new) _ 0 0 (by omega) (Nat.zero_le _) rfl
  · refine c67_ hs hne hl hv fun h' x' => ?_
    rw [ext_0, asI_k, ext_1]
    exact hk h' x'
theorem c31 {s : List UInt8} {h : H} {k : KV} (hs : ∀ x ∈ s, x ∈ decL) (hne : s ≠ []) (hl : s.length ≤ 1000000) (hv : valN 10 0 s < 9223372036854775808) (hk : ∀ h', Exh h h' → k (.tuple [.int .i64 (Int.ofNat (valN 10 0 s)), .nili]) h') : W1 (.func 31) [S s] h k := by
  refine w31 (n := 1) sw_ok (g31 ?_)
  unfold s31_0
  refine c54_ hs hne hl hv fun h' x' => ?_
  rw [ext_0, asI_k, ext_1, neq50n, oV_some, asB_b]
  refine cnd_f rfl ?_
  exact hk h' x'
/-- a line's number -/
theorem c18 {x : Tok} {h : H} {k : KV} (hx : x.kind = 2) (hs : ∀ y ∈ x.text, y ∈ decL) (hne : x.text ≠ []) (hl : x.text.length ≤ 1000000) (hv : valN 10 0 x.text < 9223372036854775808) (hk : ∀ h', Exh h h' → k (.int .i64 (Int.ofNat (if valN 10 0 x.text ≤ 2147483647 then valN 10 0 x.text else 0))) h') : W1 (.func 18) [.agg x.cells] h k := by
  refine w18 (n := 1) sw_ok (g18 ?_)
  unfold s18_0
  rw [asG_a, show Nat.ble 1 (len x.cells) = true from rfl, chk_t]
  refine newK_i ?_
  have a0 : (h.new (rowOf 47 x.cells)).at h.next = .row (tlist x.cells 0 .e) 8 0 47 true := at_new_same _ _
  have g1 : tget (tlist x.cells 0 .e) 1 = S x.text := by rw [tget_tlist]; rfl
  rw [fAddr_0]
  refine ld1_i a0 (by decide) ?_
  rw [show tget (tlist x.cells 0 .e) 0 = .int .i64 (.ofNat x.kind) by rw [tget_tlist]; rfl, asI_k, hx]
  refine or_i (fun _ => ?_) (fun e => nomatch e)
  rw [fAddr_1]
  refine ld1_i a0 (by decide) ?_
  rw [g1, asS_s, show strEq x.text.length (enc x.text) 0 0 = decide (x.text = []) from strEq_enc (t := []), decide_eq_false hne]
  refine or_i (fun _ => ?_) (fun e => nomatch e)
  rw [fAddr_1]
  refine ld1_i a0 (by decide) ?_
  rw [g1, asS_s]
  refine use2 (c30 hs hne hl) ?_
  rw [asS_s]
  refine cnd_f rfl ?_
  rw [fAddr_1]
  refine ld1_i a0 (by decide) ?_
  rw [g1, asS_s]
  refine c31 hs hne hl hv fun h' x' => ?_
  rw [ext_0, asI_k, ext_1, neq50n, oV_some, asB_b]
  refine or_b ?_
  rw [ilt, Bool.false_or]
  have hk := hk h' (Exh.new.trans x')
  refine cnd_i (fun e => ?_) (fun e => ?_)
  · have e := of_decide_eq_true e
    rw [if_neg (by omega)] at hk; exact hk
  · have e := of_decide_eq_false e
    rw [if_pos (by omega)] at hk; exact hk
end Go.Den
