/-
  A part of the proof.
-/
import Derived.Test.YtcnmehbkpaoolaaGreatDoorLex6
import Derived.Test.YtcnmehbkpaoolaaGreatDoorLexs
namespace Go.Den
open Go.RowKit
set_option maxRecDepth 100000
open Go.Lx (Jq Ht Pd Pw Sr Gc Pg Aaj idL Ady at0)
theorem drop_cons {B : List UInt8} {j : Nat} (h : j < B.length) : B.drop j = B[j] :: B.drop (j + 1) := List.drop_eq_getElem_cons h
theorem Fe {a b : Nat} {K : Int → Prop} (h : a + b ≤ 1000000000) (hk : K (Int.ofNat (a + b))) : fI (wrap .i64 (Cf (Int.ofNat a) (Int.ofNat b))) K := by rw [Dx, Dv (by omega), As]; exact hk
theorem Av5 {n : Nat} {K : Nat → Prop} (hk : K n) : De (Int.ofNat n) K := by rw [Be]; exact hk
theorem Ait {q x y : UInt8} {r : List UInt8} : Jq q (x :: y :: r) = if x = 10 then none else if x = 92 ∧ y ≠ 10 then (Jq q r).map (· + 2) else if x = q then some 1 else (Jq q (y :: r)).map (· + 1) := by rw [Jq]
theorem Aqb {q x : UInt8} : Jq q [x] = if x = 10 then none else if x = q then some 1 else none := by rw [Jq]
def Se (q : UInt8) (B : List UInt8) (j : Nat) : Nat := match Jq q (B.drop j) with
  | some n => j + n
  | none => 0
theorem Aqa {q : UInt8} {B : List UInt8} {j : Nat} (h : B.length ≤ j) : Se q B j = 0 := by
  unfold Se; rw [List.drop_eq_nil_of_le h]; simp [Jq]
theorem Avl {q : UInt8} {B : List UInt8} {j : Nat} (h : j < B.length) (e : B[j] = 10) : Se q B j = 0 := by
  unfold Se
  rw [drop_cons h, e]
  cases B.drop (j + 1) with
  | nil => simp [Jq]
  | cons y r => simp [Jq]
theorem Ap9 {q : UInt8} {B : List UInt8} {j : Nat} (h : j + 1 < B.length) (e : B[j] = 92) (e1 : B[j + 1] ≠ 10) : Se q B j = Se q B (j + 2) := by
  unfold Se
  rw [drop_cons (show j < B.length by omega), drop_cons h, e]
  rw [Ait, if_neg (by decide), if_pos ⟨rfl, e1⟩]
  cases Jq q (B.drop (j + 1 + 1)) with
  | none => rfl
  | some n => show j + (n + 2) = j + 2 + n; omega
theorem A0y {q : UInt8} {B : List UInt8} {j : Nat} (h : j < B.length) (e : B[j] = q) (e10 : B[j] ≠ 10) (hs : ¬ (B[j] = 92 ∧ ∃ h1 : j + 1 < B.length, B[j + 1] ≠ 10)) : Se q B j = j + 1 := by
  unfold Se
  rw [drop_cons h]
  cases hd : B.drop (j + 1) with
  | nil => rw [Aqb, if_neg e10, if_pos e]
  | cons y r =>
    have h1 : j + 1 < B.length := by
      rcases Nat.lt_or_ge (j + 1) B.length with h1 | h1
      · exact h1
      · rw [List.drop_eq_nil_of_le h1] at hd; cases hd
    rw [drop_cons h1] at hd
    have hy : B[j + 1] = y := by injection hd
    rw [Ait, if_neg e10, if_neg (fun e' => hs ⟨e'.1, h1, by rw [hy]; exact e'.2⟩), if_pos e]
theorem Avm {q : UInt8} {B : List UInt8} {j : Nat} (h : j < B.length) (e : B[j] ≠ q) (e10 : B[j] ≠ 10) (hs : ¬ (B[j] = 92 ∧ ∃ h1 : j + 1 < B.length, B[j + 1] ≠ 10)) : Se q B j = Se q B (j + 1) := by
  unfold Se
  rw [drop_cons h]
  cases hd : B.drop (j + 1) with
  | nil => rw [Aqb, if_neg e10, if_neg e]; simp [Jq]
  | cons y r =>
    have h1 : j + 1 < B.length := by
      rcases Nat.lt_or_ge (j + 1) B.length with h1 | h1
      · exact h1
      · rw [List.drop_eq_nil_of_le h1] at hd; cases hd
    have hd' := hd
    rw [drop_cons h1] at hd'
    have hy : B[j + 1] = y := by injection hd'
    rw [Ait, if_neg e10, if_neg (fun e' => hs ⟨e'.1, h1, by rw [hy]; exact e'.2⟩), if_neg e]
    cases Jq q (y :: r) with
    | none => rfl
    | some n => show j + (n + 1) = j + 1 + n; omega
theorem Ae7 {h : H} {v : AV} {B : List UInt8} {q : UInt8} {k : KV} (hr : Rs h v B) (hl : B.length ≤ 1000000) :
    ∀ (n j : Nat), 2 * (B.length - j) + 1 ≤ n → j ≤ B.length → k (.int .i64 (Int.ofNat (Se q B j))) h → (Yf W1 k n).a1 v (Int.ofNat q.toNat) (Int.ofNat j) h
  | 0, _, hn, _, _ => absurd hn (by omega)
  | n + 1, j, hn, hj, hk => by
    refine A3h ?_
    unfold Adg
    rw [hr.len, ilt]
    refine Lp (fun e => ?_) (fun e => ?_)
    · have e : j < B.length := of_decide_eq_true e
      obtain ⟨m, rfl⟩ : ∃ m, n = m + 1 := ⟨n - 1, by omega⟩
      rw [Be]
      refine hr.at0 e ?_
      unfold ub
      rw [Ar, show Av (Int.ofNat B[j].toNat) (Int.ofNat 10) = decide (B[j] = 10) from Sk B[j] 10]
      refine Bk (fun e10 => ?_) (fun e10 => ?_)
      · have e10 : B[j] ≠ 10 := by
          intro e'; rw [e'] at e10; exact absurd e10 (by decide)
        rw [Be]
        refine hr.at0 e ?_
        unfold ub
        rw [Ar, show Av (Int.ofNat B[j].toNat) (Int.ofNat 92) = decide (B[j] = 92) from Sk B[j] 92]
        refine Ip (b := decide (j + 1 < B.length)) (fun k' hk' => ?_) ?_
        · rw [Dx, Dv (by omega), As, hr.len, ilt]; exact hk'
        have rest : ¬ (B[j] = 92 ∧ ∃ h1 : j + 1 < B.length, B[j + 1] ≠ 10) → De (Int.ofNat j) fun m34 => Cc 3 m34 v fun v35 => Ao 0 v35 fun v36 => ld1 v36 h fun v37 => asI .u8 v37 fun n38 =>
            cnd (Av n38 (Int.ofNat q.toNat)) (fI (wrap .i64 (Cf (Int.ofNat j) (Int.ofNat 1))) fun n39 => k (.int .i64 n39) h) ((Yf W1 k (m + 1)).a2 v (Int.ofNat q.toNat) (Int.ofNat j) h) := fun hs => by
          rw [Be]
          refine hr.at0 e ?_
          unfold ub
          rw [Ar, show Av (Int.ofNat B[j].toNat) (Int.ofNat q.toNat) = decide (B[j] = q) from Sk B[j] q]
          refine Bk (fun e' => ?_) (fun e' => ?_)
          · rw [Dx, Dv (by omega), As]
            rw [A0y e (of_decide_eq_true e') e10 hs] at hk; exact hk
          · rw [Avm e (of_decide_eq_false e') e10 hs] at hk
            refine Arb ?_
            unfold Xw
            rw [Dx, Dv (by omega), As]
            exact Ae7 hr hl m (j + 1) (by omega) e hk
        refine Lp (fun e2 => ?_) (fun e2 => ?_)
        · simp only [Bool.and_eq_true, decide_eq_true_eq] at e2
          refine Fe (by omega) (Av5 ?_)
          refine hr.at0 e2.2 ?_
          unfold ub
          rw [Ar, show Av (Int.ofNat B[j + 1].toNat) (Int.ofNat 10) = decide (B[j + 1] = 10) from Sk B[j + 1] 10]
          refine Bk (fun e3 => ?_) (fun e3 => ?_)
          · have e3 : B[j + 1] ≠ 10 := by
              intro e'; rw [e'] at e3; exact absurd e3 (by decide)
            refine Fe (by omega) ?_
            refine Arb ?_
            unfold Xw
            rw [Dx, Dv (by omega), As]
            rw [Ap9 e2.2 e2.1 e3] at hk
            exact Ae7 hr hl m (j + 2) (by omega) e2.2 hk
          · exact rest fun hs => by
              obtain ⟨_, h1, h2⟩ := hs
              rw [decide_eq_false h2] at e3; cases e3
        · exact Am rfl (rest fun hs => by
            obtain ⟨h0, h1, _⟩ := hs
            rw [decide_eq_true h0, decide_eq_true h1] at e2; cases e2)
      · have e10 : B[j] = 10 := by
          by_cases e' : B[j] = 10
          · exact e'
          · rw [decide_eq_false e'] at e10; cases e10
        rw [Avl e e10] at hk; exact hk
    · have e : ¬ j < B.length := of_decide_eq_false e
      rw [Aqa (by omega)] at hk
      exact Am rfl hk
def lnV (B : List UInt8) (j : Nat) : Nat := j + ((B.drop j).takeWhile (· ≠ 10)).length
def bkV (B : List UInt8) (j : Nat) : Nat × Bool := match Sr (B.drop j) with
  | some n => (j + n, false)
  | none => (B.length, true)
theorem A20 {B : List UInt8} {j : Nat} (h : j < B.length) (e : B[j] ≠ 10) : lnV B j = lnV B (j + 1) := by
  unfold lnV
  rw [drop_cons h, List.takeWhile_cons, if_pos (by simpa using e)]
  simp only [List.length_cons]; omega
theorem A2z {B : List UInt8} {j : Nat} (h : j < B.length) (e : B[j] = 10) : lnV B j = j := by
  unfold lnV
  rw [drop_cons h, List.takeWhile_cons, if_neg (by simpa using e)]; rfl
theorem Av9 {B : List UInt8} {j : Nat} (h : B.length ≤ j) : lnV B j = j := by
  unfold lnV; rw [List.drop_eq_nil_of_le h]; rfl
theorem Atk {x y : UInt8} {r : List UInt8} : Sr (x :: y :: r) = if x = 42 ∧ y = 47 then some 2 else (Sr (y :: r)).map (· + 1) := by rw [Sr]
theorem A6q {x : UInt8} : Sr [x] = none := by rw [Sr]
theorem Atl : Sr [] = none := by rw [Sr]
theorem Axg {B : List UInt8} {j : Nat} (h : B.length ≤ j) : bkV B j = (B.length, true) := by
  unfold bkV; rw [List.drop_eq_nil_of_le h, Atl]
theorem Axf {B : List UInt8} {j : Nat} (h : j + 1 < B.length) (e : B[j] = 42) (e1 : B[j + 1] = 47) : bkV B j = (j + 2, false) := by
  unfold bkV; rw [drop_cons (show j < B.length by omega), drop_cons h, Atk, if_pos ⟨e, e1⟩]
theorem A6s {B : List UInt8} {j : Nat} (h : j < B.length) (hs : ¬ (B[j] = 42 ∧ ∃ h1 : j + 1 < B.length, B[j + 1] = 47)) : bkV B j = bkV B (j + 1) := by
  unfold bkV
  rw [drop_cons h]
  cases hd : B.drop (j + 1) with
  | nil => rw [A6q, Atl]
  | cons y r =>
    have h1 : j + 1 < B.length := by
      rcases Nat.lt_or_ge (j + 1) B.length with h1 | h1
      · exact h1
      · rw [List.drop_eq_nil_of_le h1] at hd; cases hd
    have hd' := hd
    rw [drop_cons h1] at hd'
    have hy : B[j + 1] = y := by injection hd'
    rw [Atk, if_neg (fun e' => hs ⟨e'.1, h1, by rw [hy]; exact e'.2⟩)]
    cases Sr (y :: r) with
    | none => rfl
    | some n => show (j + (n + 1), false) = (j + 1 + n, false); congr 1; omega
theorem As9 {h : H} {v : AV} {B : List UInt8} {k : KV} (hr : Rs h v B) (hl : B.length ≤ 1000000) :
    ∀ (n j : Nat), B.length - j + 1 ≤ n → j ≤ B.length → k (.tuple [.int .i64 (Int.ofNat (lnV B j)), .bool false]) h → (r79 W1 k n).a1 v (Int.ofNat j) h
  | 0, _, hn, _, _ => absurd hn (by omega)
  | n + 1, j, hn, hj, hk => by
    refine Baf ?_
    unfold Akt
    rw [hr.len, ilt]
    refine Lp (fun e => ?_) (fun e => ?_)
    · have e : j < B.length := of_decide_eq_true e
      refine Yr (hr.at0 e ?_)
      unfold ub
      rw [Ar, show Av (Int.ofNat B[j].toNat) (Int.ofNat 10) = decide (B[j] = 10) from Sk B[j] 10]
      by_cases e10 : B[j] = 10
      · rw [A2z e e10] at hk
        rw [decide_eq_true e10]
        exact Am rfl hk
      · rw [A20 e e10] at hk
        rw [decide_eq_false e10]
        refine Bo rfl (Fe (by omega) ?_)
        exact As9 hr hl n (j + 1) (by omega) e hk
    · have e : ¬ j < B.length := of_decide_eq_false e
      rw [Av9 (by omega)] at hk
      exact Am rfl hk
theorem As8 {h : H} {v : AV} {B : List UInt8} {k : KV} (hr : Rs h v B) (hl : B.length ≤ 1000000) :
    ∀ (n j : Nat), B.length - j + 1 ≤ n → j ≤ B.length + 2 → k (.tuple [.int .i64 (Int.ofNat (bkV B j).1), .bool (bkV B j).2]) h → (r79 W1 k n).a2 v (Int.ofNat j) h
  | 0, _, hn, _, _ => absurd hn (by omega)
  | n + 1, j, hn, hj, hk => by
    refine Bae ?_
    unfold Aks
    rw [hr.len, ilt]
    refine Bk (fun e => ?_) (fun e => ?_)
    · have e : j < B.length := of_decide_eq_true e
      refine Yr (hr.at0 e ?_)
      unfold ub
      rw [Ar, show Av (Int.ofNat B[j].toNat) (Int.ofNat 42) = decide (B[j] = 42) from Sk B[j] 42]
      refine Ip (b := decide (bt B (j + 1) = 47)) (fun k' hk' => Fe (by omega) ?_) ?_
      · refine Jx hr ?_
        unfold ub
        rw [Ar, show Av (Int.ofNat (bt B (j + 1)).toNat) (Int.ofNat 47) = decide (bt B (j + 1) = 47) from Sk _ 47]
        exact hk'
      · refine Bk (fun e2 => ?_) (fun e2 => ?_)
        · simp only [Bool.and_eq_true, decide_eq_true_eq] at e2
          have h1 : j + 1 < B.length := by
            rcases Nat.lt_or_ge (j + 1) B.length with h1 | h1
            · exact h1
            · have := e2.2; rw [Rw h1] at this; exact absurd this (by decide)
          have e3 := e2.2
          rw [Uo h1] at e3
          rw [Axf h1 e2.1 e3] at hk
          exact Fe (by omega) hk
        · have hs : ¬ (B[j] = 42 ∧ ∃ h1 : j + 1 < B.length, B[j + 1] = 47) := fun hs => by
            obtain ⟨a, h1, b⟩ := hs
            rw [Uo h1, decide_eq_true a, decide_eq_true b] at e2; cases e2
          rw [A6s e hs] at hk
          refine Fe (by omega) ?_
          exact As8 hr hl n (j + 1) (by omega) (by omega) hk
    · have e : ¬ j < B.length := of_decide_eq_false e
      rw [Axg (by omega)] at hk
      rw [hr.len]
      exact hk
theorem Ii {B : List UInt8} {i j : Nat} : at0 (B.drop i) j = bt B (i + j) := by
  unfold at0 bt
  rw [List.getD_eq_getElem?_getD, List.getD_eq_getElem?_getD, List.getElem?_drop]
def Awz (B : List UInt8) (i : Nat) : Nat × Bool := match Pw (B.drop i) with
  | none => (i, false)
  | some (n, b) => (i + n, b)
theorem Bck {h : H} {v : AV} {B : List UInt8} {i : Nat} {k : KV} (hr : Rs h v B) (hl : B.length ≤ 1000000) (hi : i < B.length) (hk : k (.tuple [.int .i64 (Int.ofNat (Awz B i).1), .bool (Awz B i).2]) h) : W1 (.func 79) [v, .int .i64 (Int.ofNat i)] h k := by
  refine w79 (n := B.length + 5 + 1) Ca (g79 ?_)
  unfold Af3
  have a0 : at0 (B.drop i) 0 = bt B i := Ii
  have a1 : at0 (B.drop i) 1 = bt B (i + 1) := Ii
  refine Jx hr ?_
  unfold ub
  rw [Ar, show Av (Int.ofNat (bt B i).toNat) (Int.ofNat 47) = decide (bt B i = 47) from Sk _ 47]
  unfold Awz Pw at hk
  rw [a0, a1] at hk
  by_cases h0 : bt B i = 47
  · rw [decide_eq_true h0]
    rw [if_neg (fun e => e h0)] at hk
    refine Am rfl (Fe (by omega) (Jx hr ?_))
    unfold ub
    rw [Ar, show Av (Int.ofNat (bt B (i + 1)).toNat) (Int.ofNat 47) = decide (bt B (i + 1) = 47) from Sk _ 47]
    by_cases h1 : bt B (i + 1) = 47
    · rw [decide_eq_true h1]
      rw [if_pos h1] at hk
      exact Bo rfl (As9 hr hl _ i (by omega) (by omega) hk)
    · rw [decide_eq_false h1]
      rw [if_neg h1] at hk
      refine Am rfl (Fe (by omega) (Jx hr ?_))
      unfold ub
      rw [Ar, show Av (Int.ofNat (bt B (i + 1)).toNat) (Int.ofNat 42) = decide (bt B (i + 1) = 42) from Sk _ 42]
      by_cases h2 : bt B (i + 1) = 42
      · rw [decide_eq_true h2]
        rw [if_neg (fun e => e h2)] at hk
        refine Am rfl (Fe (by omega) (As8 hr hl _ (i + 2) (by omega) (by omega) ?_))
        unfold bkV
        rw [List.drop_drop] at hk
        cases hb : Sr (B.drop (i + 2)) with
        | none =>
          rw [hb] at hk
          have : i + (B.drop i).length = B.length := by rw [List.length_drop]; omega
          simp only [this] at hk
          exact hk
        | some n =>
          rw [hb] at hk
          have : i + (n + 2) = i + 2 + n := by omega
          simp only [this] at hk
          exact hk
      · rw [decide_eq_false h2]
        rw [if_pos h2] at hk
        exact Bo rfl hk
  · rw [decide_eq_false h0]
    rw [if_pos h0] at hk
    exact Bo rfl hk
def Vo (B : List UInt8) (j : Nat) : Nat := j + Ht (B.drop j)
def isE (x : UInt8) : Bool := decide (x = 101) || decide (x = 69) || decide (x = 112) || decide (x = 80)
def Aec (x : UInt8) : Bool := decide (x = 43) || decide (x = 45)
def isW (x : UInt8) : Bool := Co x || isDigit x || decide (x = 46)
theorem A2l {x y : UInt8} {r : List UInt8} : Ht (x :: y :: r) = if (x = 101 ∨ x = 69 ∨ x = 112 ∨ x = 80) ∧ (y = 43 ∨ y = 45) then 2 + Ht r else if Go.Lx.Co x || Go.Lx.isDigit x || x == 46 then 1 + Ht (y :: r) else 0 := by rw [Ht]
theorem A2m {x : UInt8} : Ht [x] = if Go.Lx.Co x || Go.Lx.isDigit x || x == 46 then 1 else 0 := by rw [Ht]
theorem Aqp : Ht [] = 0 := by rw [Ht]
theorem Arf (x : UInt8) : (Go.Lx.Co x || Go.Lx.isDigit x || x == 46) = isW x := by
  unfold isW
  have : (x == 46) = decide (x = 46) := rfl
  rw [this]; rfl
theorem Al5 {x : UInt8} : isE x = true ↔ (x = 101 ∨ x = 69 ∨ x = 112 ∨ x = 80) := by
  unfold isE; simp only [Bool.or_eq_true, decide_eq_true_eq]; exact ⟨fun h => by rcases h with ((h | h) | h) | h <;> simp [h], fun h => by rcases h with h | h | h | h <;> simp [h]⟩
theorem Ag4 {x : UInt8} : Aec x = true ↔ (x = 43 ∨ x = 45) := by unfold Aec; simp
theorem Avz {B : List UInt8} {j : Nat} : Vo B j = if (isE (bt B j) && Aec (bt B (j + 1))) = true then Vo B (j + 2) else if isW (bt B j) = true then Vo B (j + 1) else j := by
  rcases Nat.lt_or_ge j B.length with h | h
  · rw [Uo h]
    rcases Nat.lt_or_ge (j + 1) B.length with h1 | h1
    · rw [Uo h1]
      unfold Vo
      rw [drop_cons h, drop_cons h1, A2l, Arf, show j + 1 + 1 = j + 2 from rfl]
      by_cases a : (isE B[j] && Aec B[j + 1]) = true
      · rw [if_pos a]
        simp only [Bool.and_eq_true] at a
        rw [if_pos ⟨Al5.1 a.1, Ag4.1 a.2⟩]
        omega
      · rw [if_neg a, if_neg (fun e => a (by simp only [Bool.and_eq_true]; exact ⟨Al5.2 e.1, Ag4.2 e.2⟩))]
        split <;> omega
    · rw [Rw h1]
      unfold Vo
      rw [drop_cons h, List.drop_eq_nil_of_le h1, A2m, Arf, Aqp]
      rw [show Aec 0 = false by decide, Bool.and_false, if_neg (show ¬ (false = true) by decide)]
      split <;> rfl
  · rw [Rw h]
    unfold Vo
    rw [List.drop_eq_nil_of_le h, Aqp, show isE 0 = false by decide, Bool.false_and, if_neg (show ¬ (false = true) by decide), show isW 0 = false by decide, if_neg (show ¬ (false = true) by decide)]; rfl
theorem Ae6 {h : H} {v : AV} {B : List UInt8} {k : KV} (hr : Rs h v B) (hl : B.length ≤ 1000000) :
    ∀ (n j : Nat), B.length + 2 - j ≤ n → j ≤ B.length + 1 → k (.int .i64 (Int.ofNat (Vo B j))) h → (Agf W1 k n).a1 v (Int.ofNat j) h
  | 0, _, hn, hj, _ => absurd hn (by omega)
  | n + 1, j, hn, hj, hk => by
    refine A3g ?_
    unfold Adb
    rw [Avz] at hk
    refine Jx hr ?_
    unfold ub
    rw [Ar]
    refine Fe (by omega) (Jx hr ?_)
    unfold ub
    rw [Ar]
    have q : ∀ (x : UInt8) (m : Nat) (hm : m < 256), Av (Int.ofNat x.toNat) (Int.ofNat m) = decide (x = UInt8.ofNat m) := fun x m hm => by
      have : (UInt8.ofNat m).toNat = m := by simp [UInt8.toNat_ofNat']; omega
      have e := Sk x (UInt8.ofNat m)
      rw [this] at e; exact e
    refine Fk (Fk (Fk ?_))
    rw [q _ 101 (by decide), q _ 69 (by decide), q _ 112 (by decide), q _ 80 (by decide)]
    refine Ip (b := Aec (bt B (j + 1))) (fun k' hk' => Fk ?_) ?_
    · rw [q _ 43 (by decide), q _ 45 (by decide)]
      exact hk'
    · show cnd (isE (bt B j) && Aec (bt B (j + 1))) _ _
      by_cases a : (isE (bt B j) && Aec (bt B (j + 1))) = true
      · rw [if_pos a] at hk
        have hlt : j + 1 < B.length := by
          rcases Nat.lt_or_ge (j + 1) B.length with h1 | h1
          · exact h1
          · rw [Rw h1, show Aec 0 = false by decide, Bool.and_false] at a; cases a
        exact Bo a (Fe (by omega) (Ae6 hr hl n (j + 2) (by omega) (by omega) hk))
      · rw [if_neg a] at hk
        refine Am (by simpa using a) ?_
        refine Ek (A6e _) ?_
        rw [Ay]
        refine Te (b := isDigit (bt B j)) (fun k' hk' => Ek (Axb _) (by rw [Ay]; exact hk')) ?_
        refine Fk ?_
        rw [q _ 46 (by decide)]
        show cnd (isW (bt B j)) _ _
        by_cases b : isW (bt B j) = true
        · rw [if_pos b] at hk
          have hlt : j < B.length := by
            rcases Nat.lt_or_ge j B.length with h1 | h1
            · exact h1
            · rw [Rw h1] at b; exact absurd b (by decide)
          exact Bo b (Fe (by omega) (Ae6 hr hl n (j + 1) (by omega) (by omega) hk))
        · rw [if_neg b] at hk
          exact Am (by simpa using b) hk
theorem Awf (x : UInt8) (m : Nat) (hm : m < 256) : Av (Int.ofNat x.toNat) (Int.ofNat m) = decide (x = UInt8.ofNat m) := by
  have : (UInt8.ofNat m).toNat = m := by simp [UInt8.toNat_ofNat']; omega
  have e := Sk x (UInt8.ofNat m)
  rw [this] at e; exact e
theorem Alz (x : UInt8) : Go.Lx.isDigit x = isDigit x := rfl
theorem Aqy (x : UInt8) : Go.Lx.Co x = Co x := rfl
theorem A6d {h : H} {v : AV} {B : List UInt8} {i : Nat} {k : KV} (hr : Rs h v B) (hl : B.length ≤ 1000000) (hi : i < B.length) (hk : k (.int .i64 (Int.ofNat (i + Pd (B.drop i)))) h) : W1 (.func 134) [v, .int .i64 (Int.ofNat i)] h k := by
  refine A7t (n := B.length + 5 + 1) Ca (Bhl ?_)
  unfold Adc
  have a0 : at0 (B.drop i) 0 = bt B i := Ii
  have a1 : at0 (B.drop i) 1 = bt B (i + 1) := Ii
  unfold Pd at hk
  rw [a0, a1, Alz, Alz, List.drop_drop] at hk
  refine Jx hr ?_
  unfold ub
  rw [Ar]
  refine Ek (Axb _) ?_
  rw [Ay]
  refine Ip (b := !(decide (bt B i = 46)) || !(isDigit (bt B (i + 1)))) (fun k' hk' => Jx hr ?_) ?_
  · unfold ub
    rw [Ar, Awf _ 46 (by decide)]
    refine Te (b := !(isDigit (bt B (i + 1)))) (fun k'' hk'' => Fe (by omega) (Jx hr ?_)) ?_
    · unfold ub
      rw [Ar]
      refine Ek (Axb _) ?_
      rw [Ay]
      exact (Bv _).symm ▸ hk''
    · exact (Bv (decide (bt B i = UInt8.ofNat 46))).symm ▸ hk'
  · rw [Bv]
    have he : (bt B i == 46) = decide (bt B i = 46) := rfl
    rw [he] at hk
    by_cases a : (isDigit (bt B i) || decide (bt B i = 46) && isDigit (bt B (i + 1))) = true
    · rw [if_pos a] at hk
      refine Am ?_ (Fe (by omega) (Ae6 hr hl _ (i + 1) (by omega) (by omega) ?_))
      · cases h1 : isDigit (bt B i) <;> cases h2 : decide (bt B i = 46) <;> cases h3 : isDigit (bt B (i + 1)) <;> simp_all
      · unfold Vo
        have : i + 1 + Ht (B.drop (i + 1)) = i + (1 + Ht (B.drop (i + 1))) := by omega
        rw [this]; exact hk
    · rw [if_neg a] at hk
      refine Bo ?_ hk
      cases h1 : isDigit (bt B i) <;> cases h2 : decide (bt B i = 46) <;> cases h3 : isDigit (bt B (i + 1)) <;> simp_all
def idV (B : List UInt8) (j : Nat) : Nat := j + idL (B.drop j)
theorem A3p {B : List UInt8} {j : Nat} : idV B j = if (Co (bt B j) || isDigit (bt B j)) = true then idV B (j + 1) else j := by
  rcases Nat.lt_or_ge j B.length with h | h
  · rw [Uo h]
    unfold idV idL
    rw [drop_cons h, List.takeWhile_cons]
    by_cases a : (Co B[j] || isDigit B[j]) = true
    · rw [if_pos a, if_pos (show (Go.Lx.Co B[j] || Go.Lx.isDigit B[j]) = true from a)]
      simp only [List.length_cons]; omega
    · rw [if_neg a, if_neg (show ¬ (Go.Lx.Co B[j] || Go.Lx.isDigit B[j]) = true from a)]; rfl
  · rw [Rw h, if_neg (by decide)]
    unfold idV idL
    rw [List.drop_eq_nil_of_le h]; rfl
theorem As7 {h : H} {v : AV} {B : List UInt8} {k : KV} (hr : Rs h v B) (hl : B.length ≤ 1000000) :
    ∀ (n j : Nat), B.length + 1 - j ≤ n → j ≤ B.length → k (.tuple [.int .i64 (Int.ofNat 1), .int .i64 (Int.ofNat (idV B j)), .bool false]) h → (r80 W1 k n).a1 v (Int.ofNat j) h
  | 0, _, hn, hj, _ => absurd hn (by omega)
  | n + 1, j, hn, hj, hk => by
    refine Bad ?_
    unfold Akq
    rw [A3p] at hk
    refine Jx hr ?_
    unfold ub
    rw [Ar]
    refine Ek (A6e _) ?_
    rw [Ay]
    refine Te (b := isDigit (bt B j)) (fun k' hk' => Jx hr ?_) ?_
    · unfold ub
      rw [Ar]
      exact Ek (Axb _) (by rw [Ay]; exact hk')
    · by_cases a : (Co (bt B j) || isDigit (bt B j)) = true
      · rw [if_pos a] at hk
        have hlt : j < B.length := by
          rcases Nat.lt_or_ge j B.length with h1 | h1
          · exact h1
          · rw [Rw h1] at a; exact absurd a (by decide)
        exact Bo a (Fe (by omega) (As7 hr hl n (j + 1) (by omega) hlt hk))
      · rw [if_neg a] at hk
        exact Am (by simpa using a) hk
end Go.Den
namespace Go.Den
open Go.RowKit
set_option maxRecDepth 100000
open Go.Lx (Jq Ht Pd Pw Sr Pg Aaj idL Ady at0)
theorem A6f {h : H} {v : AV} {B : List UInt8} {i : Nat} {k : KV} (hr : Rs h v B) (hl : B.length ≤ 1000000) (hi : i < B.length) (hk : k (.int .i64 (Int.ofNat (Se (bt B i) B (i + 1)))) h) : W1 (.func 131) [v, .int .i64 (Int.ofNat i)] h k := by
  refine A7w (n := 2 * B.length + 4 + 1) Ca (Bho ?_)
  unfold Adh
  refine Jx hr ?_
  unfold ub
  rw [Ar]
  exact Fe (by omega) (Ae7 hr hl _ (i + 1) (by omega) (by omega) hk)
theorem Agz {B : List UInt8} {i : Nat} : Tn B i = match Aaj (B.drop i) with
    | some k => Int.ofNat k
    | none => Int.negSucc 0 := by
  unfold Tn Aaj
  rw [show at0 (B.drop i) 0 = bt B i from Ii, show at0 (B.drop i) 1 = bt B (i + 1) from Ii, show at0 (B.drop i) 2 = bt B (i + 2) from Ii]
  by_cases a : bt B i = 34 ∨ bt B i = 39
  · rw [if_pos a, if_pos (by simpa using a)]
  · rw [if_neg a, if_neg (by simpa using a)]
    by_cases b : bt B i = 117 ∧ bt B (i + 1) = 56 ∧ bt B (i + 2) = 34
    · rw [if_pos b, if_pos (by simp [b])]
    · rw [if_neg b, if_neg (by simp only [Bool.and_eq_true, decide_eq_true_eq]; exact fun e => b ⟨e.1.1, e.1.2, e.2⟩)]
      by_cases d : (bt B i = 76 ∨ bt B i = 117 ∨ bt B i = 85) ∧ (bt B (i + 1) = 34 ∨ bt B (i + 1) = 39)
      · rw [if_pos d, if_pos (by simp only [Bool.and_eq_true, Bool.or_eq_true, decide_eq_true_eq]; exact ⟨by rcases d.1 with h | h | h <;> simp [h], d.2⟩)]
      · rw [if_neg d, if_neg (by simp only [Bool.and_eq_true, Bool.or_eq_true, decide_eq_true_eq]; exact fun e => d ⟨by rcases e.1 with (h | h) | h <;> simp [h], e.2⟩)]
theorem Aqd {B : List UInt8} : ∀ (p : List UInt8) (i : Nat), (∀ x ∈ p, x ≠ 0) → pre B i p = p.isPrefixOf (B.drop i)
  | [], i, _ => by cases B.drop i <;> rfl
  | x :: p, i, hp => by
    have ih := Aqd (B := B) p (i + 1) fun y hy => hp y (by simp [hy])
    show (decide (bt B i = x) && pre B (i + 1) p) = _
    rcases Nat.lt_or_ge i B.length with h | h
    · rw [drop_cons h, Uo h, ih]
      show _ = ((x == B[i]) && p.isPrefixOf (B.drop (i + 1)))
      congr 1
      rw [Bool.eq_iff_iff, decide_eq_true_eq, beq_iff_eq]
      exact ⟨Eq.symm, Eq.symm⟩
    · rw [Rw h, List.drop_eq_nil_of_le h, decide_eq_false (fun e => hp x (by simp) e.symm)]; rfl
theorem Vt {B : List UInt8} {i : Nat} : ∀ (l : List (List UInt8)), (∀ p ∈ l, ∀ x ∈ p, x ≠ 0) → Sn B i l = match l.find? (fun p => p.isPrefixOf (B.drop i)) with
    | some p => p.length
    | none => 0
  | [], _ => rfl
  | p :: l, h => by
    have ih := Vt (B := B) (i := i) l fun q hq => h q (by simp [hq])
    unfold Sn
    rw [Aqd p i (h p (by simp)), List.find?_cons]
    cases p.isPrefixOf (B.drop i) with
    | true => rfl
    | false => rw [if_neg (by decide)]; exact ih
theorem Anw {B : List UInt8} {i : Nat} : Sn B i Ch = Ady (B.drop i) := by
  rw [Vt Ch (by decide)]
  rfl
def nxV (_B : List UInt8) (i : Nat) (r : Nat × Nat × Bool) : AV := .tuple [.int .i64 (Int.ofNat r.1), .int .i64 (Int.ofNat (i + r.2.1)), .bool r.2.2]
theorem As6 {h : H} {v : AV} {B : List UInt8} {i n : Nat} {k : KV} (hr : Rs h v B) (hl : B.length ≤ 1000000) (hi : i < B.length) (hn : B.length + 5 ≤ n) (hk : ∀ h', Exh h h' → k (nxV B i (Pg (B.drop i))) h') : (r80 W1 k n).a2 v (Int.ofNat i) h := by
  obtain ⟨n, rfl⟩ : ∃ m, n = m + 1 := ⟨n - 1, by omega⟩
  refine Bac ?_
  unfold Akp
  unfold Pg at hk
  rw [show at0 (B.drop i) 0 = bt B i from Ii, Aqy] at hk
  refine Jx hr ?_
  unfold ub
  rw [Ar]
  refine Ek (A6e _) ?_
  rw [Ay]
  by_cases a : Co (bt B i) = true
  · rw [if_pos a] at hk
    refine Bo a (Fe (by omega) (As7 hr hl n (i + 1) (by omega) hi ?_))
    have := hk h .refl
    unfold nxV at this
    unfold idV
    rw [List.drop_drop] at this
    have e : i + (1 + idL (B.drop (i + 1))) = i + 1 + idL (B.drop (i + 1)) := by omega
    simp only [e] at this
    exact this
  · rw [if_neg a] at hk
    refine Am (by simpa using a) (A6d hr hl hi ?_)
    rw [Ar, ilt]
    by_cases b : 0 < Pd (B.drop i)
    · rw [if_pos b] at hk
      exact Bo (decide_eq_true (by omega)) (hk h .refl)
    · rw [if_neg b] at hk
      refine Am (decide_eq_false (by omega)) (Bi5 hr (by omega) fun h' x => ?_)
      rw [Ar, ilt, Anw]
      by_cases d : 0 < Ady (B.drop i)
      · rw [if_pos d] at hk
        have := Go.Lx.Alm (B.drop i)
        rw [List.length_drop] at this
        exact Bo (decide_eq_true d) (Fe (by omega) (hk h' x))
      · rw [if_neg d] at hk
        exact Am (decide_eq_false d) (Fe (by omega) (hk h' x))
theorem Bcj {h : H} {v : AV} {B : List UInt8} {i : Nat} {k : KV} (hr : Rs h v B) (hl : B.length ≤ 1000000) (hi : i < B.length) (hk : ∀ h', Exh h h' → k (nxV B i (Go.Lx.Gc (B.drop i))) h') : W1 (.func 80) [v, .int .i64 (Int.ofNat i)] h k := by
  refine w80 (n := B.length + 6 + 1) Ca (g80 ?_)
  unfold Akr
  refine Bi6 hr (by omega) ?_
  rw [Ar, Agz]
  unfold Go.Lx.Gc at hk
  cases hL : Aaj (B.drop i) with
  | none =>
    rw [hL] at hk
    exact Am rfl (As6 hr hl hi (by omega) hk)
  | some kk =>
    rw [hL] at hk
    simp only [] at hk ⊢
    have hq : bt B (i + kk) ≠ 0 := by
      have e0 : at0 (B.drop i) 0 = bt B i := Ii
      have e1 : at0 (B.drop i) 1 = bt B (i + 1) := Ii
      have e2 : at0 (B.drop i) 2 = bt B (i + 2) := Ii
      unfold Aaj at hL
      rw [e0, e1, e2] at hL
      split at hL
      · rename_i h1
        cases hL
        rcases h1 with h1 | h1 <;> (rw [show i + 0 = i from rfl, h1]; decide)
      · split at hL
        · rename_i h1
          cases hL
          rw [h1.2.2]; decide
        · split at hL
          · rename_i h1
            cases hL
            rcases h1.2 with h1 | h1 <;> (rw [h1]; decide)
          · cases hL
    have hlt : i + kk < B.length := by
      rcases Nat.lt_or_ge (i + kk) B.length with h1 | h1
      · exact h1
      · exact absurd (Rw h1) hq
    rw [show at0 (B.drop i) kk = bt B (i + kk) from Ii, List.drop_drop] at hk
    refine Bo (by rw [ile]; exact decide_eq_true (Nat.zero_le _)) (Fe (by omega) (A6f hr hl hlt ?_))
    rw [Ar]
    unfold Se
    rw [show i + (kk + 1) = i + kk + 1 from rfl] at hk
    cases hQ : Jq (bt B (i + kk)) (B.drop (i + kk + 1)) with
    | some n =>
      rw [hQ] at hk
      simp only [] at hk ⊢
      have hqn := Go.Lx.Wn hQ
      rw [List.length_drop] at hqn
      have en : i + (kk + 1 + n) = i + kk + 1 + n := by omega
      rw [ilt, decide_eq_true (show 0 < i + kk + 1 + n by omega)]
      refine Ip (b := decide (bt B (i + kk) = 34)) (fun k' hk' => Fe (by omega) (Jx hr ?_)) ?_
      · unfold ub
        rw [Ar, Awf _ 34 (by decide)]; exact hk'
      · rw [Bool.true_and]
        by_cases e : bt B (i + kk) = 34
        · rw [if_pos e] at hk
          refine Bo (decide_eq_true e) ?_
          have := hk h .refl
          unfold nxV at this
          simp only [en] at this
          exact this
        · rw [if_neg e] at hk
          refine Am (decide_eq_false e) (Bo rfl ?_)
          have := hk h .refl
          unfold nxV at this
          simp only [en] at this
          exact this
    | none =>
      rw [hQ] at hk
      simp only [] at hk ⊢
      rw [ilt, decide_eq_false (show ¬ 0 < 0 by omega)]
      refine Lp (fun e => nomatch e) (fun _ => Am rfl (Am rfl ?_))
      rw [Nl]
      by_cases e : kk = 0
      · rw [if_pos e] at hk
        exact Bo (decide_eq_true e) (Fe (by omega) (hk h .refl))
      · rw [if_neg e] at hk
        exact Am (decide_eq_false e) (As6 hr hl hi (by omega) hk)
end Go.Den
