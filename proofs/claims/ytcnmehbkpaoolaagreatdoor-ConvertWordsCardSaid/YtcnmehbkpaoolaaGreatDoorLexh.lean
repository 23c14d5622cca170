/-
  A part of the proof.
-/
import Derived.Test.YtcnmehbkpaoolaaGreatDoorLexg
namespace Go.Den
open Go.RowKit
set_option maxRecDepth 100000
open Go.Lx (Jt Nh Wv Rp Td Ry Afq idL Ahx at0)
theorem A8d {h : H} {v : AV} {B : List UInt8} {i : Nat} {k : KV} (hr : Rs h v B) (hl : B.length ≤ 1000000) (hi : i < B.length) (hk : k (.int .i64 (Int.ofNat (Sj (bt B i) B (i + 1)))) h) : W1 (.func 131) [v, .int .i64 (Int.ofNat i)] h k := by
  refine A9w (n := 2 * B.length + 4 + 1) Bj (Bkc ?_)
  unfold Aeo
  refine La hr ?_
  unfold ub
  rw [Au]
  exact Fp (by omega) (Agk hr hl _ (i + 1) (by omega) (by omega) hk)
theorem Aig {B : List UInt8} {i : Nat} : Ui B i = match Afq (B.drop i) with
    | some k => Int.ofNat k
    | none => Int.negSucc 0 := by
  unfold Ui Afq
  rw [show at0 (B.drop i) 0 = bt B i from Il, show at0 (B.drop i) 1 = bt B (i + 1) from Il, show at0 (B.drop i) 2 = bt B (i + 2) from Il]
  by_cases a : bt B i = 34 ∨ bt B i = 39
  · rw [if_pos a, if_pos (by simpa using a)]
  · rw [if_neg a, if_neg (by simpa using a)]
    by_cases b : bt B i = 117 ∧ bt B (i + 1) = 56 ∧ bt B (i + 2) = 34
    · rw [if_pos b, if_pos (by simp [b])]
    · rw [if_neg b, if_neg (by simp only [Bool.and_eq_true, decide_eq_true_eq]; exact fun e => b ⟨e.1.1, e.1.2, e.2⟩)]
      by_cases d : (bt B i = 76 ∨ bt B i = 117 ∨ bt B i = 85) ∧ (bt B (i + 1) = 34 ∨ bt B (i + 1) = 39)
      · rw [if_pos d, if_pos (by simp only [Bool.and_eq_true, Bool.or_eq_true, decide_eq_true_eq]; exact ⟨by rcases d.1 with h | h | h <;> simp [h], d.2⟩)]
      · rw [if_neg d, if_neg (by simp only [Bool.and_eq_true, Bool.or_eq_true, decide_eq_true_eq]; exact fun e => d ⟨by rcases e.1 with (h | h) | h <;> simp [h], e.2⟩)]
theorem Asx {B : List UInt8} : ∀ (p : List UInt8) (i : Nat), (∀ x ∈ p, x ≠ 0) → pre B i p = p.isPrefixOf (B.drop i)
  | [], i, _ => by cases B.drop i <;> rfl
  | x :: p, i, hp => by
    have ih := Asx (B := B) p (i + 1) fun y hy => hp y (by simp [hy])
    show (decide (bt B i = x) && pre B (i + 1) p) = _
    rcases Nat.lt_or_ge i B.length with h | h
    · rw [drop_cons h, Vm h, ih]
      show _ = ((x == B[i]) && p.isPrefixOf (B.drop (i + 1)))
      congr 1
      rw [Bool.eq_iff_iff, decide_eq_true_eq, beq_iff_eq]
      exact ⟨Eq.symm, Eq.symm⟩
    · rw [Sd h, List.drop_eq_nil_of_le h, decide_eq_false (fun e => hp x (by simp) e.symm)]; rfl
theorem Xc {B : List UInt8} {i : Nat} : ∀ (l : List (List UInt8)), (∀ p ∈ l, ∀ x ∈ p, x ≠ 0) → Su B i l = match l.find? (fun p => p.isPrefixOf (B.drop i)) with
    | some p => p.length
    | none => 0
  | [], _ => rfl
  | p :: l, h => by
    have ih := Xc (B := B) (i := i) l fun q hq => h q (by simp [hq])
    unfold Su
    rw [Asx p i (h p (by simp)), List.find?_cons]
    cases p.isPrefixOf (B.drop i) with
    | true => rfl
    | false => rw [if_neg (by decide)]; exact ih
theorem Ap2 {B : List UInt8} {i : Nat} : Su B i Ck = Ahx (B.drop i) := by
  rw [Xc Ck (by decide)]
  rfl
def nxV (_B : List UInt8) (i : Nat) (r : Nat × Nat × Bool) : AV := .tuple [.int .i64 (Int.ofNat r.1), .int .i64 (Int.ofNat (i + r.2.1)), .bool r.2.2]
theorem Avo {h : H} {v : AV} {B : List UInt8} {i n : Nat} {k : KV} (hr : Rs h v B) (hl : B.length ≤ 1000000) (hi : i < B.length) (hn : B.length + 5 ≤ n) (hk : ∀ h', Exh h h' → k (nxV B i (Ry (B.drop i))) h') : (r80 W1 k n).a2 v (Int.ofNat i) h := by
  obtain ⟨n, rfl⟩ : ∃ m, n = m + 1 := ⟨n - 1, by omega⟩
  refine Bc2 ?_
  unfold Amf
  unfold Ry at hk
  rw [show at0 (B.drop i) 0 = bt B i from Il, Atj] at hk
  refine La hr ?_
  unfold ub
  rw [Au]
  refine Dn (A8c _) ?_
  rw [Bv]
  by_cases a : Bd (bt B i) = true
  · rw [if_pos a] at hk
    refine Cd a (Fp (by omega) (Avp hr hl n (i + 1) (by omega) hi ?_))
    have := hk h .refl
    unfold nxV at this
    unfold idV
    rw [List.drop_drop] at this
    have e : i + (1 + idL (B.drop (i + 1))) = i + 1 + idL (B.drop (i + 1)) := by omega
    simp only [e] at this
    exact this
  · rw [if_neg a] at hk
    refine Bl (by simpa using a) (A8b hr hl hi ?_)
    rw [Au, ilt]
    by_cases b : 0 < Wv (B.drop i)
    · rw [if_pos b] at hk
      exact Cd (decide_eq_true (by omega)) (hk h .refl)
    · rw [if_neg b] at hk
      refine Bl (decide_eq_false (by omega)) (Blz hr (by omega) fun h' x => ?_)
      rw [Au, ilt, Ap2]
      by_cases d : 0 < Ahx (B.drop i)
      · rw [if_pos d] at hk
        have := Go.Lx.Anq (B.drop i)
        rw [List.length_drop] at this
        exact Cd (decide_eq_true d) (Fp (by omega) (hk h' x))
      · rw [if_neg d] at hk
        exact Bl (decide_eq_false d) (Fp (by omega) (hk h' x))
theorem Bfv {h : H} {v : AV} {B : List UInt8} {i : Nat} {k : KV} (hr : Rs h v B) (hl : B.length ≤ 1000000) (hi : i < B.length) (hk : ∀ h', Exh h h' → k (nxV B i (Go.Lx.Fv (B.drop i))) h') : W1 (.func 80) [v, .int .i64 (Int.ofNat i)] h k := by
  refine w80 (n := B.length + 6 + 1) Bj (g80 ?_)
  unfold Amh
  refine Bl0 hr (by omega) ?_
  rw [Au, Aig]
  unfold Go.Lx.Fv at hk
  cases hL : Afq (B.drop i) with
  | none =>
    rw [hL] at hk
    exact Bl rfl (Avo hr hl hi (by omega) hk)
  | some kk =>
    rw [hL] at hk
    simp only [] at hk ⊢
    have hq : bt B (i + kk) ≠ 0 := by
      have e0 : at0 (B.drop i) 0 = bt B i := Il
      have e1 : at0 (B.drop i) 1 = bt B (i + 1) := Il
      have e2 : at0 (B.drop i) 2 = bt B (i + 2) := Il
      unfold Afq at hL
      rw [e0, e1, e2] at hL
      split at hL
      · rename_i h1
        cases hL
        rcases h1 with h1 | h1 <;> (rw [show i + 0 = i from rfl, h1]; decide)
      · split at hL
        · rename_i h1
          cases hL
          rw [h1.2.2]; decide
        · split at hL
          · rename_i h1
            cases hL
            rcases h1.2 with h1 | h1 <;> (rw [h1]; decide)
          · cases hL
    have hlt : i + kk < B.length := by
      rcases Nat.lt_or_ge (i + kk) B.length with h1 | h1
      · exact h1
      · exact absurd (Sd h1) hq
    rw [show at0 (B.drop i) kk = bt B (i + kk) from Il, List.drop_drop] at hk
    refine Cd (by rw [ile]; exact decide_eq_true (Nat.zero_le _)) (Fp (by omega) (A8d hr hl hlt ?_))
    rw [Au]
    unfold Sj
    rw [show i + (kk + 1) = i + kk + 1 from rfl] at hk
    cases hQ : Jt (bt B (i + kk)) (B.drop (i + kk + 1)) with
    | some n =>
      rw [hQ] at hk
      simp only [] at hk ⊢
      have hqn := Go.Lx.Xr hQ
      rw [List.length_drop] at hqn
      have en : i + (kk + 1 + n) = i + kk + 1 + n := by omega
      rw [ilt, decide_eq_true (show 0 < i + kk + 1 + n by omega)]
      refine Lq (b := decide (bt B (i + kk) = 34)) (fun k' hk' => Fp (by omega) (La hr ?_)) ?_
      · unfold ub
        rw [Au, Azc _ 34 (by decide)]; exact hk'
      · rw [Bool.true_and]
        by_cases e : bt B (i + kk) = 34
        · rw [if_pos e] at hk
          refine Cd (decide_eq_true e) ?_
          have := hk h .refl
          unfold nxV at this
          simp only [en] at this
          exact this
        · rw [if_neg e] at hk
          refine Bl (decide_eq_false e) (Cd rfl ?_)
          have := hk h .refl
          unfold nxV at this
          simp only [en] at this
          exact this
    | none =>
      rw [hQ] at hk
      simp only [] at hk ⊢
      rw [ilt, decide_eq_false (show ¬ 0 < 0 by omega)]
      refine Gq (fun e => nomatch e) (fun _ => Bl rfl (Bl rfl ?_))
      rw [Sr]
      by_cases e : kk = 0
      · rw [if_pos e] at hk
        exact Cd (decide_eq_true e) (Fp (by omega) (hk h .refl))
      · rw [if_neg e] at hk
        exact Bl (decide_eq_false e) (Avo hr hl hi (by omega) hk)
end Go.Den
