/-
  A part of the proof.
-/
import Derived.Test.YtdpnnajfmkpfjaaGreatDoorByts
namespace Go.Den
open Go.RowKit
set_option maxRecDepth 100000
/-! ### strconv.ParseUint, of digits -/
def digN (c : UInt8) : Nat := if c.toNat ≤ 57 then c.toNat - 48 else if c.toNat ≤ 70 then c.toNat - 55 else c.toNat - 87
def valN (B v : Nat) (l : List UInt8) : Nat := l.foldl (fun v c => v * B + digN c) v
theorem wrap8 {n : Nat} (h : n < 256) : wrap .u8 (Int.ofNat n) = Int.ofNat n := by
  rw [wrap_eq]
  simp [IntKind.wrap, IntKind.bits, IntKind.signed]
  omega
theorem valN_ge {B : Nat} (hB : 1 ≤ B) : ∀ (l : List UInt8) (v : Nat), v ≤ valN B v l
  | [], _ => Nat.le_refl _
  | c :: l, v => Nat.le_trans (Nat.le_trans (Nat.le_mul_of_pos_right v hB) (Nat.le_add_right _ _)) (valN_ge hB l (v * B + digN c))
theorem asI_u {x : UInt8} {K : Int → Prop} : asI .u8 (ub x) K = K (Int.ofNat x.toNat) := rfl
theorem wrap64u (n : Nat) : wrap .u64 (Int.ofNat n) = Int.ofNat (n % 18446744073709551616) := by
  rw [wrap_eq]
  simp [IntKind.wrap, IntKind.bits, IntKind.signed]
theorem wrap64l {n : Nat} (h : n < 18446744073709551616) : wrap .u64 (Int.ofNat n) = Int.ofNat n := by rw [wrap64u, Nat.mod_eq_of_lt h]
theorem c92 (x : UInt8) : Pure PP G h0 92 [.int .u8 (Int.ofNat x.toNat)] (.int .u8 (Int.ofNat (x.toNat ||| 32))) := by
  refine w92 (n := 1) sw_ok (g92 ?_)
  unfold s92_0
  show (Bool.rec False (fN (Nat.lor x.toNat 32) (fun n => _)) (band (Nat.ble x.toNat (intMax .u8)) (Nat.ble 32 (intMax .u8))) : Prop)
  rw [Nat.ble_eq_true_of_le (show x.toNat ≤ intMax .u8 by have := x.toNat_lt; show x.toNat ≤ 255; omega)]
  show fN (Nat.lor x.toNat 32) _
  rw [fN_eq]; rfl
/-- a hex digit that is no decimal one -/
theorem hex_let : ∀ x ∈ hexL, 57 < x.toNat → 97 ≤ (x.toNat ||| 32) ∧ (x.toNat ||| 32) ≤ 122 ∧ digN x = (x.toNat ||| 32) - 87 ∧ 48 ≤ x.toNat := by decide
theorem hex_48 : ∀ x ∈ hexL, 48 ≤ x.toNat ∧ x.toNat ≠ 95 ∧ digN x < 16 := by decide
theorem dec_10 : ∀ x ∈ decL, digN x < 10 := by decide
theorem oct_8 : ∀ x ∈ octL, digN x < 8 := by decide
noncomputable def puV (v : Nat) : AV := if v < 18446744073709551616 then .tuple [.int .u64 (Int.ofNat v), .nili] else .tuple [.int .u64 (Int.ofNat 18446744073709551615), .iface 105 (.int .i64 (Int.ofNat 1))]
noncomputable abbrev M64 : Nat := 18446744073709551615
def Frame (h h' : H) : Prop := h.next.nat ≤ h'.next.nat ∧ ∀ c, c.nat < h.next.nat → h'.at c = h.at c
theorem wrap8u (n : Nat) : wrap .u8 (Int.ofNat n) = Int.ofNat (n % 256) := by
  rw [wrap_eq]
  simp [IntKind.wrap, IntKind.bits, IntKind.signed]
/-- a row's byte -/
theorem row_get {h : H} {q : P} {t : Tm} {m z n : Nat} {e : TypeId} {w ti : Bool} {l : List UInt8} (ha : h.at q = .row t m z e w) (hm : l.length ≤ m) (hc : CellsAre t l) {i : Nat} (hi : i < l.length) (hn : n = l.length) {K : AV → Prop} (hk : K (ub l[i])) : elemA 1 i (.slice q 0 n 1 ti) fun v' => ld1 v' h K := by
  subst hn
  show (Bool.rec bad0 (fN (Nat.add 0 (Nat.mul i 1)) (fun q' => ld1 (.ptr q q') h K)) (band (Nat.ble (Nat.add i 1) l.length) (Nat.beq 1 1)) : Prop)
  rw [Nat.ble_eq_true_of_le (show Nat.add i 1 ≤ l.length from hi)]
  have e1 : Nat.add 0 (Nat.mul i 1) = i := by show 0 + i * 1 = i; omega
  rw [e1]
  show ld1 (.ptr q i) h K
  refine ld1_i ha (by omega) ?_
  rw [hc i hi]; exact hk
section
variable {B : Nat} {s s0 : List UInt8} {set : List UInt8} {q : P} {t : Tm} {h : H} {k : KV}
theorem c82_1 (hB : 2 ≤ B ∧ B ≤ 16) (hset : ∀ x ∈ s, x ∈ hexL ∧ digN x < B) (hl : s.length ≤ 1099511627776) (ha : h.at q = .row t s.length 0 TB false) (hc : CellsAre t s) : ∀ (n i v : Nat), 2 * (s.length - i) + 1 ≤ n → i ≤ s.length → v ≤ M64 → k (puV (valN B v (s.drop i))) h →
    (r82 W1 k n).a1 (Int.ofNat B) false s0.length (enc s0) (Int.ofNat (M64 / B + 1)) (Int.ofNat M64) false (Int.ofNat v) (.slice q 0 s.length 1 false) (Int.ofNat s.length) (Int.ofNat i) h
  | 0, _, _, hn, _, _, _ => absurd hn (by omega)
  | n + 1, i, v, hn, hi, hv, hk => by
    refine j82_1 ?_
    unfold s82_1
    rw [ilt]
    by_cases e : i < s.length
    · refine cnd_t (decide_eq_true e) ?_
      have hd : s.drop i = s[i] :: s.drop (i + 1) := List.drop_eq_getElem_cons e
      obtain ⟨hx, hdg⟩ := hset _ (List.getElem_mem e)
      obtain ⟨h48, h95, h16⟩ := hex_48 _ hx
      have h256 := (s[i]).toNat_lt
      have step : ∀ (h2 : h = h), (r82 W1 k n).a2 (Int.ofNat B) false s0.length (enc s0) (Int.ofNat (M64 / B + 1)) (Int.ofNat M64) false (Int.ofNat v) (Int.ofNat (digN s[i])) (.slice q 0 s.length 1 false) (Int.ofNat s.length) (Int.ofNat i) h := by
        intro _
        obtain ⟨n, rfl⟩ : ∃ n', n = n' + 1 := ⟨n - 1, by omega⟩
        refine j82_2 ?_
        unfold s82_2
        rw [wrap8 (show B < 256 by omega), fI_eq, ile]
        refine cnd_f (decide_eq_false (by omega)) ?_
        rw [ile]
        have hq := Nat.div_add_mod M64 B
        have hqm := Nat.mod_lt M64 (show 0 < B by omega)
        refine cnd_i (fun e1 => ?_) (fun e1 => ?_)
        · have e1 : M64 / B + 1 ≤ v := of_decide_eq_true e1
          have h1 : M64 < v * B := by
            have : (M64 / B + 1) * B ≤ v * B := Nat.mul_le_mul_right B e1
            rw [Nat.add_mul, Nat.one_mul] at this
            rw [Nat.mul_comm] at hq
            omega
          rw [hd] at hk
          have h2 : v * B + digN s[i] ≤ valN B v (s[i] :: s.drop (i + 1)) := valN_ge (by omega) _ _
          unfold puV at hk
          rw [if_neg (by show ¬ _ < M64 + 1; omega)] at hk
          exact hk
        · have e1 : ¬ M64 / B + 1 ≤ v := of_decide_eq_false e1
          have h1 : v * B ≤ M64 := by
            have : v * B ≤ M64 / B * B := Nat.mul_le_mul_right B (by omega)
            rw [Nat.mul_comm] at hq
            omega
          have hB64 : B < 18446744073709551616 := by omega
          rw [wrap64l hB64, fI_eq, show Int.ofNat v * Int.ofNat B = Int.ofNat (v * B) from rfl, wrap64l (show v * B < M64 + 1 by omega), fI_eq, wrap64l (show digN s[i] < M64 + 1 by show _ < 18446744073709551616; omega), fI_eq, iaddN, wrap64u, fI_eq, ilt]
          refine or_b ?_
          rw [ilt]
          refine cnd_i (fun e2 => ?_) (fun e2 => ?_)
          · have h3 : M64 < v * B + digN s[i] := by
              simp only [Bool.or_eq_true, decide_eq_true_eq] at e2
              rcases e2 with e2 | e2
              · rcases Nat.lt_or_ge M64 (v * B + digN s[i]) with h | h
                · exact h
                · rw [Nat.mod_eq_of_lt (show _ < M64 + 1 by omega)] at e2; omega
              · have := Nat.mod_lt (v * B + digN s[i]) (show 0 < 18446744073709551616 by decide)
                have e2 : M64 < (v * B + digN s[i]) % 18446744073709551616 := e2
                have : (v * B + digN s[i]) % 18446744073709551616 < M64 + 1 := this
                omega
            rw [hd] at hk
            have h2 : v * B + digN s[i] ≤ valN B v (s[i] :: s.drop (i + 1)) := valN_ge (by omega) _ _
            unfold puV at hk
            rw [if_neg (by show ¬ _ < M64 + 1; omega)] at hk
            exact hk
          · have h3 : v * B + digN s[i] ≤ M64 := by
              simp only [Bool.or_eq_false_iff, decide_eq_false_iff_not] at e2
              rcases Nat.lt_or_ge M64 (v * B + digN s[i]) with h | h
              · exfalso
                have e3 : (v * B + digN s[i]) % 18446744073709551616 = v * B + digN s[i] - 18446744073709551616 := by
                  rw [Nat.mod_eq_sub_mod (show 18446744073709551616 ≤ v * B + digN s[i] from h), Nat.mod_eq_of_lt (by have : v * B ≤ 18446744073709551615 := h1; omega)]
                rw [e3] at e2
                have : v * B ≤ 18446744073709551615 := h1
                omega
              · exact h
            rw [iadd1 (by omega), fI_eq, Nat.mod_eq_of_lt (show _ < M64 + 1 by omega)]
            refine c82_1 hB hset hl ha hc n (i + 1) _ (by omega) e h3 ?_
            rw [hd] at hk
            exact hk
      rw [natI_eq]
      refine row_get ha (Nat.le_refl _) hc e rfl ?_
      rw [asI_u]
      refine and_b ?_
      refine cnd_f (by rw [Bool.and_false]) ?_
      refine and_b ?_
      rw [ile, ile]
      by_cases e1 : (s[i]).toNat ≤ 57
      · refine cnd_t (by rw [decide_eq_true h48, decide_eq_true e1]; rfl) ?_
        rw [isubN h48, wrap8 (by omega), fI_eq]
        have : (s[i]).toNat - 48 = digN s[i] := by unfold digN; rw [if_pos e1]
        rw [this]
        exact step rfl
      · refine cnd_f (by rw [decide_eq_false e1, Bool.and_false]) ?_
        obtain ⟨g1, g2, g3, _⟩ := hex_let _ hx (by omega)
        refine use2 (c92 s[i]) ?_
        rw [asI_k, ile]
        refine and_q (b := true) (fun k' hk' => ?_) ?_
        · refine use2 (c92 s[i]) ?_
          rw [asI_k, ile, decide_eq_true g2]; exact hk'
        refine cnd_t (by rw [decide_eq_true g1]; rfl) ?_
        refine use2 (c92 s[i]) ?_
        rw [asI_k, isubN g1, wrap8 (by omega), fI_eq, iaddN, wrap8 (by omega), fI_eq]
        rw [show ((s[i]).toNat ||| 32) - 97 + 10 = digN s[i] by rw [g3]; omega]
        exact step rfl
    · refine cnd_f (decide_eq_false e) ?_
      have hd : s.drop i = [] := by rw [List.drop_eq_nil_iff]; omega
      rw [hd] at hk
      have hk : k (puV v) h := hk
      unfold puV at hk
      rw [if_pos (show v < M64 + 1 by omega)] at hk
      refine and_i (fun e => by cases e) (fun _ => ?_)
      exact cnd_f rfl hk
end
theorem cv9 (l c : Nat) (h : H) : convA env h 9 37 (.str l c) = some (.slice h.next 0 l 1 false, h.new (.row (tlist (byteCells l c) 0 .e) l 0 TB false)) := by kernel_rfl
theorem bytes_enc : ∀ l : List UInt8, byteCells l.length (enc l) = ubs l
  | [] => rfl
  | x :: l => by
    obtain ⟨h1, h2⟩ := enc_split x l
    show (.int .u8 (.ofNat (Nat.mod (enc (x :: l)) 256)) :: byteCells l.length (Nat.div (enc (x :: l)) 256) : List AV) = _
    rw [h1, h2, bytes_enc l]; rfl
theorem shl64 {K : Int → Prop} : shlI .u64 (Int.ofNat 1) (Int.ofNat 64) K = K (Int.ofNat 0) := by
  have e : wrap .u64 (Int.ofNat 1 * 2 ^ (min 64 (IntKind.bits .u64))) = Int.ofNat 0 := by kernel_rfl
  show fI (wrap .u64 (Int.ofNat 1 * 2 ^ (min 64 (IntKind.bits .u64)))) K = _
  rw [e, fI_eq]
theorem quo88 {K : Int → Prop} : quoI .u64 (Int.ofNat 18446744073709551615) (Int.ofNat 8) K = K (Int.ofNat (M64 / 8)) := by
  have e : wrap .u64 ((Int.ofNat 18446744073709551615).tdiv (Int.ofNat 8)) = Int.ofNat (M64 / 8) := by kernel_rfl
  show fI (wrap .u64 ((Int.ofNat 18446744073709551615).tdiv (Int.ofNat 8))) K = _
  rw [e, fI_eq]
theorem c82 {B : Nat} {s : List UInt8} {h : H} {k : KV} (hB : B = 8 ∨ B = 10 ∨ B = 16) (hne : s ≠ []) (hset : ∀ x ∈ s, x ∈ hexL ∧ digN x < B) (hl : s.length ≤ 1099511627776) (hk : ∀ h', Frame h h' → k (puV (valN B 0 s)) h') : W1 (.func 82) [S s, .int .i64 (Int.ofNat B), .int .i64 (Int.ofNat 64)] h k := by
  refine w82 (n := 2 * s.length + 20) sw_ok (g82 ?_)
  unfold s82_0
  have e0 : strEq s.length (enc s) 0 0 = false := by rw [strEq_nil]; exact decide_eq_false hne
  refine cnd_f e0 ?_
  refine and_b ?_
  have hB2 : 2 ≤ B ∧ B ≤ 16 := by omega
  refine cnd_t (by rw [ile, ile, decide_eq_true (show 2 ≤ B by omega), decide_eq_true (show B ≤ 36 by omega)]; rfl) ?_
  rw [ieqN, decide_eq_false (show ¬ B = 0 by omega)]
  refine j82_5 ?_
  unfold s82_5
  refine cnd_f rfl ?_
  refine or_b ?_
  refine cnd_f rfl ?_
  refine j82_4 ?_
  unfold s82_4
  have main : ∀ n, 2 * s.length + 2 ≤ n → (r82 W1 k n).a3 s.length (enc s) (Int.ofNat B) (Int.ofNat 64) false s.length (enc s) (Int.ofNat (M64 / B + 1)) h := by
    intro n hn
    obtain ⟨n, rfl⟩ : ∃ n', n = n' + 1 := ⟨n - 1, by omega⟩
    refine j82_3 ?_
    unfold s82_3
    rw [show wrap .u64 (Int.ofNat 64) = Int.ofNat 64 by kernel_rfl, fI_eq]
    rw [shl64, show wrap .u64 (isub (Int.ofNat 0) (Int.ofNat 1)) = Int.ofNat M64 by kernel_rfl, fI_eq, cv9, oK_some, lenV_sl, bytes_enc]
    refine c82_1 hB2 hset hl (at_new_same _ _) (CellsAre.new s .e) n 0 0 (by omega) (Nat.zero_le _) (Nat.zero_le _) ?_
    rw [List.drop_zero]
    exact hk _ ⟨by rw [next_new]; omega, fun c hc => at_new_o hc⟩
  rcases hB with rfl | rfl | rfl
  · refine cnd_f rfl ?_
    refine cnd_f rfl ?_
    rw [show wrap .u64 (Int.ofNat 8) = Int.ofNat 8 by kernel_rfl, fI_eq]
    rw [quo88, show wrap .u64 (iadd (Int.ofNat (M64 / 8)) (Int.ofNat 1)) = Int.ofNat (M64 / 8 + 1) by kernel_rfl, fI_eq]
    exact main _ (by omega)
  · refine cnd_t rfl ?_
    exact main _ (by omega)
  · refine cnd_f rfl ?_
    refine cnd_t rfl ?_
    exact main _ (by omega)
theorem c82z {B : Nat} {s : List UInt8} {h : H} {k : KV} (hB : B = 8 ∨ B = 10 ∨ B = 16) (hne : s ≠ []) (hset : ∀ x ∈ s, x ∈ hexL ∧ digN x < B) (hl : s.length ≤ 1099511627776) (hk : ∀ h', Frame h h' → k (puV (valN B 0 s)) h') : W1 (.func 82) [S s, .int .i64 (Int.ofNat B), .int .i64 (Int.ofNat 0)] h k := by
  refine w82 (n := 2 * s.length + 20) sw_ok (g82 ?_)
  unfold s82_0
  have e0 : strEq s.length (enc s) 0 0 = false := by rw [strEq_nil]; exact decide_eq_false hne
  refine cnd_f e0 ?_
  refine and_b ?_
  have hB2 : 2 ≤ B ∧ B ≤ 16 := by omega
  refine cnd_t (by rw [ile, ile, decide_eq_true (show 2 ≤ B by omega), decide_eq_true (show B ≤ 36 by omega)]; rfl) ?_
  rw [ieqN, decide_eq_false (show ¬ B = 0 by omega)]
  refine j82_5 ?_
  unfold s82_5
  refine cnd_t rfl ?_
  refine j82_4 ?_
  unfold s82_4
  have main : ∀ n, 2 * s.length + 2 ≤ n → (r82 W1 k n).a3 s.length (enc s) (Int.ofNat B) (Int.ofNat 64) false s.length (enc s) (Int.ofNat (M64 / B + 1)) h := by
    intro n hn
    obtain ⟨n, rfl⟩ : ∃ n', n = n' + 1 := ⟨n - 1, by omega⟩
    refine j82_3 ?_
    unfold s82_3
    rw [show wrap .u64 (Int.ofNat 64) = Int.ofNat 64 by kernel_rfl, fI_eq]
    rw [shl64, show wrap .u64 (isub (Int.ofNat 0) (Int.ofNat 1)) = Int.ofNat M64 by kernel_rfl, fI_eq, cv9, oK_some, lenV_sl, bytes_enc]
    refine c82_1 hB2 hset hl (at_new_same _ _) (CellsAre.new s .e) n 0 0 (by omega) (Nat.zero_le _) (Nat.zero_le _) ?_
    rw [List.drop_zero]
    exact hk _ ⟨by rw [next_new]; omega, fun c hc => at_new_o hc⟩
  rcases hB with rfl | rfl | rfl
  · refine cnd_f rfl ?_
    refine cnd_f rfl ?_
    rw [show wrap .u64 (Int.ofNat 8) = Int.ofNat 8 by kernel_rfl, fI_eq]
    rw [quo88, show wrap .u64 (iadd (Int.ofNat (M64 / 8)) (Int.ofNat 1)) = Int.ofNat (M64 / 8 + 1) by kernel_rfl, fI_eq]
    exact main _ (by omega)
  · refine cnd_t rfl ?_
    exact main _ (by omega)
  · refine cnd_f rfl ?_
    refine cnd_t rfl ?_
    exact main _ (by omega)
theorem neq50i (t : TypeId) (v : AV) : binA env .neq 49 (.iface t v) .nili = some (.bool true) := by kernel_rfl
theorem neq50n : binA env .neq 49 .nili .nili = some (.bool false) := by kernel_rfl
end Go.Den

