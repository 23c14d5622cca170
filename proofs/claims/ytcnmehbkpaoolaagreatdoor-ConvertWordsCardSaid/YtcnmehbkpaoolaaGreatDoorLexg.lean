/-
 A part of the proof.
-/
import Derived.Test.YtcnmehbkpaoolaaGreatDoorLex6
import Derived.Test.YtcnmehbkpaoolaaGreatDoorLexp
namespace Go.Den
open Go.RowKit
set_option maxRecDepth 100000
open Go.Lx (Jt Nh Wv Rp Td Fv Ry Afq idL Ahx at0)
theorem drop_cons {B : List UInt8} {j : Nat} (h : j < B.length) : B.drop j = B[j] :: B.drop (j + 1) := List.drop_eq_getElem_cons h
theorem Fp {a b : Nat} {K : Int → Prop} (h : a + b ≤ 1000000000) (hk : K (Int.ofNat (a + b))) : fI (wrap .i64 (Bp (Int.ofNat a) (Int.ofNat b))) K := by rw [Dk, Cm (by omega), Ar]; exact hk
theorem Ayw {n : Nat} {K : Nat → Prop} (hk : K n) : Cn (Int.ofNat n) K := by rw [As]; exact hk
theorem Akj {q x y : UInt8} {r : List UInt8} : Jt q (x :: y :: r) = if x = 10 then none else if x = 92 ∧ y ≠ 10 then (Jt q r).map (· + 2) else if x = q then some 1 else (Jt q (y :: r)).map (· + 1) := by rw [Jt]
theorem Asu {q x : UInt8} : Jt q [x] = if x = 10 then none else if x = q then some 1 else none := by rw [Jt]
def Sj (q : UInt8) (B : List UInt8) (j : Nat) : Nat := match Jt q (B.drop j) with
 | some n => j + n
 | none => 0
theorem Ass {q : UInt8} {B : List UInt8} {j : Nat} (h : B.length ≤ j) : Sj q B j = 0 := by
 unfold Sj; rw [List.drop_eq_nil_of_le h]; simp [Jt]
theorem Ayc {q : UInt8} {B : List UInt8} {j : Nat} (h : j < B.length) (e : B[j] = 10) : Sj q B j = 0 := by
 unfold Sj
 rw [drop_cons h, e]
 cases B.drop (j + 1) with
 | nil => simp [Jt]
 | cons y r => simp [Jt]
theorem Asr {q : UInt8} {B : List UInt8} {j : Nat} (h : j + 1 < B.length) (e : B[j] = 92) (e1 : B[j + 1] ≠ 10) : Sj q B j = Sj q B (j + 2) := by
 unfold Sj
 rw [drop_cons (show j < B.length by omega), drop_cons h, e]
 rw [Akj, if_neg (by decide), if_pos ⟨rfl, e1⟩]
 cases Jt q (B.drop (j + 1 + 1)) with
 | none => rfl
 | some n => show j + (n + 2) = j + 2 + n; omega
theorem A2w {q : UInt8} {B : List UInt8} {j : Nat} (h : j < B.length) (e : B[j] = q) (e10 : B[j] ≠ 10) (hs : ¬ (B[j] = 92 ∧ ∃ h1 : j + 1 < B.length, B[j + 1] ≠ 10)) : Sj q B j = j + 1 := by
 unfold Sj
 rw [drop_cons h]
 cases hd : B.drop (j + 1) with
 | nil => rw [Asu, if_neg e10, if_pos e]
 | cons y r =>
  have h1 : j + 1 < B.length := by
   rcases Nat.lt_or_ge (j + 1) B.length with h1 | h1
   · exact h1
   · rw [List.drop_eq_nil_of_le h1] at hd; cases hd
  rw [drop_cons h1] at hd
  have hy : B[j + 1] = y := by injection hd
  rw [Akj, if_neg e10, if_neg (fun e' => hs ⟨e'.1, h1, by rw [hy]; exact e'.2⟩), if_pos e]
theorem Ayd {q : UInt8} {B : List UInt8} {j : Nat} (h : j < B.length) (e : B[j] ≠ q) (e10 : B[j] ≠ 10) (hs : ¬ (B[j] = 92 ∧ ∃ h1 : j + 1 < B.length, B[j + 1] ≠ 10)) : Sj q B j = Sj q B (j + 1) := by
 unfold Sj
 rw [drop_cons h]
 cases hd : B.drop (j + 1) with
 | nil => rw [Asu, if_neg e10, if_neg e]; simp [Jt]
 | cons y r =>
  have h1 : j + 1 < B.length := by
   rcases Nat.lt_or_ge (j + 1) B.length with h1 | h1
   · exact h1
   · rw [List.drop_eq_nil_of_le h1] at hd; cases hd
  have hd' := hd
  rw [drop_cons h1] at hd'
  have hy : B[j + 1] = y := by injection hd'
  rw [Akj, if_neg e10, if_neg (fun e' => hs ⟨e'.1, h1, by rw [hy]; exact e'.2⟩), if_neg e]
  cases Jt q (y :: r) with
  | none => rfl
  | some n => show j + (n + 1) = j + 1 + n; omega
theorem Agk {h : H} {v : AV} {B : List UInt8} {q : UInt8} {k : KV} (hr : Rs h v B) (hl : B.length ≤ 1000000) :
 ∀ (n j : Nat), 2 * (B.length - j) + 1 ≤ n → j ≤ B.length → k (.int .i64 (Int.ofNat (Sj q B j))) h → (Zi W1 k n).a1 v (Int.ofNat q.toNat) (Int.ofNat j) h
 | 0, _, hn, _, _ => absurd hn (by omega)
 | n + 1, j, hn, hj, hk => by
  refine A4k ?_
  unfold Aen
  rw [hr.len, ilt]
  refine Gq (fun e => ?_) (fun e => ?_)
  · have e : j < B.length := of_decide_eq_true e
    obtain ⟨m, rfl⟩ : ∃ m, n = m + 1 := ⟨n - 1, by omega⟩
    rw [As]
    refine hr.at0 e ?_
    unfold ub
    rw [Au, show Ba (Int.ofNat B[j].toNat) (Int.ofNat 10) = decide (B[j] = 10) from Ov B[j] 10]
    refine Bb (fun e10 => ?_) (fun e10 => ?_)
    · have e10 : B[j] ≠ 10 := by
       intro e'; rw [e'] at e10; exact absurd e10 (by decide)
      rw [As]
      refine hr.at0 e ?_
      unfold ub
      rw [Au, show Ba (Int.ofNat B[j].toNat) (Int.ofNat 92) = decide (B[j] = 92) from Ov B[j] 92]
      refine Lq (b := decide (j + 1 < B.length)) (fun k' hk' => ?_) ?_
      · rw [Dk, Cm (by omega), Ar, hr.len, ilt]; exact hk'
      have rest : ¬ (B[j] = 92 ∧ ∃ h1 : j + 1 < B.length, B[j + 1] ≠ 10) → Cn (Int.ofNat j) fun m34 => Cc 3 m34 v fun v35 => Ap 0 v35 fun v36 => ld1 v36 h fun v37 => asI .u8 v37 fun n38 =>
       cnd (Ba n38 (Int.ofNat q.toNat)) (fI (wrap .i64 (Bp (Int.ofNat j) (Int.ofNat 1))) fun n39 => k (.int .i64 n39) h) ((Zi W1 k (m + 1)).a2 v (Int.ofNat q.toNat) (Int.ofNat j) h) := fun hs => by
       rw [As]
       refine hr.at0 e ?_
       unfold ub
       rw [Au, show Ba (Int.ofNat B[j].toNat) (Int.ofNat q.toNat) = decide (B[j] = q) from Ov B[j] q]
       refine Bb (fun e' => ?_) (fun e' => ?_)
       · rw [Dk, Cm (by omega), Ar]
         rw [A2w e (of_decide_eq_true e') e10 hs] at hk; exact hk
       · rw [Ayd e (of_decide_eq_false e') e10 hs] at hk
         refine Atz ?_
         unfold Yy
         rw [Dk, Cm (by omega), Ar]
         exact Agk hr hl m (j + 1) (by omega) e hk
      refine Gq (fun e2 => ?_) (fun e2 => ?_)
      · simp only [Bool.and_eq_true, decide_eq_true_eq] at e2
        refine Fp (by omega) (Ayw ?_)
        refine hr.at0 e2.2 ?_
        unfold ub
        rw [Au, show Ba (Int.ofNat B[j + 1].toNat) (Int.ofNat 10) = decide (B[j + 1] = 10) from Ov B[j + 1] 10]
        refine Bb (fun e3 => ?_) (fun e3 => ?_)
        · have e3 : B[j + 1] ≠ 10 := by
           intro e'; rw [e'] at e3; exact absurd e3 (by decide)
          refine Fp (by omega) ?_
          refine Atz ?_
          unfold Yy
          rw [Dk, Cm (by omega), Ar]
          rw [Asr e2.2 e2.1 e3] at hk
          exact Agk hr hl m (j + 2) (by omega) e2.2 hk
        · exact rest fun hs => by
           obtain ⟨_, h1, h2⟩ := hs
           rw [decide_eq_false h2] at e3; cases e3
      · exact Bl rfl (rest fun hs => by
         obtain ⟨h0, h1, _⟩ := hs
         rw [decide_eq_true h0, decide_eq_true h1] at e2; cases e2)
    · have e10 : B[j] = 10 := by
       by_cases e' : B[j] = 10
       · exact e'
       · rw [decide_eq_false e'] at e10; cases e10
      rw [Ayc e e10] at hk; exact hk
  · have e : ¬ j < B.length := of_decide_eq_false e
    rw [Ass (by omega)] at hk
    exact Bl rfl hk
def lnV (B : List UInt8) (j : Nat) : Nat := j + ((B.drop j).takeWhile (· ≠ 10)).length
def bkV (B : List UInt8) (j : Nat) : Nat × Bool := match Td (B.drop j) with
 | some n => (j + n, false)
 | none => (B.length, true)
theorem A3x {B : List UInt8} {j : Nat} (h : j < B.length) (e : B[j] ≠ 10) : lnV B j = lnV B (j + 1) := by
 unfold lnV
 rw [drop_cons h, List.takeWhile_cons, if_pos (by simpa using e)]
 simp only [List.length_cons]; omega
theorem A3w {B : List UInt8} {j : Nat} (h : j < B.length) (e : B[j] = 10) : lnV B j = j := by
 unfold lnV
 rw [drop_cons h, List.takeWhile_cons, if_neg (by simpa using e)]; rfl
theorem Ay1 {B : List UInt8} {j : Nat} (h : B.length ≤ j) : lnV B j = j := by
 unfold lnV; rw [List.drop_eq_nil_of_le h]; rfl
theorem Av6 {x y : UInt8} {r : List UInt8} : Td (x :: y :: r) = if x = 42 ∧ y = 47 then some 2 else (Td (y :: r)).map (· + 1) := by rw [Td]
theorem A8m {x : UInt8} : Td [x] = none := by rw [Td]
theorem Av7 : Td [] = none := by rw [Td]
theorem A0a {B : List UInt8} {j : Nat} (h : B.length ≤ j) : bkV B j = (B.length, true) := by
 unfold bkV; rw [List.drop_eq_nil_of_le h, Av7]
theorem Az9 {B : List UInt8} {j : Nat} (h : j + 1 < B.length) (e : B[j] = 42) (e1 : B[j + 1] = 47) : bkV B j = (j + 2, false) := by
 unfold bkV; rw [drop_cons (show j < B.length by omega), drop_cons h, Av6, if_pos ⟨e, e1⟩]
theorem A8n {B : List UInt8} {j : Nat} (h : j < B.length) (hs : ¬ (B[j] = 42 ∧ ∃ h1 : j + 1 < B.length, B[j + 1] = 47)) : bkV B j = bkV B (j + 1) := by
 unfold bkV
 rw [drop_cons h]
 cases hd : B.drop (j + 1) with
 | nil => rw [A8m, Av7]
 | cons y r =>
  have h1 : j + 1 < B.length := by
   rcases Nat.lt_or_ge (j + 1) B.length with h1 | h1
   · exact h1
   · rw [List.drop_eq_nil_of_le h1] at hd; cases hd
  have hd' := hd
  rw [drop_cons h1] at hd'
  have hy : B[j + 1] = y := by injection hd'
  rw [Av6, if_neg (fun e' => hs ⟨e'.1, h1, by rw [hy]; exact e'.2⟩)]
  cases Td (y :: r) with
  | none => rfl
  | some n => show (j + (n + 1), false) = (j + 1 + n, false); congr 1; omega
theorem Avr {h : H} {v : AV} {B : List UInt8} {k : KV} (hr : Rs h v B) (hl : B.length ≤ 1000000) :
 ∀ (n j : Nat), B.length - j + 1 ≤ n → j ≤ B.length → k (.tuple [.int .i64 (Int.ofNat (lnV B j)), .bool false]) h → (r79 W1 k n).a1 v (Int.ofNat j) h
 | 0, _, hn, _, _ => absurd hn (by omega)
 | n + 1, j, hn, hj, hk => by
  refine Bc5 ?_
  unfold Amj
  rw [hr.len, ilt]
  refine Gq (fun e => ?_) (fun e => ?_)
  · have e : j < B.length := of_decide_eq_true e
    refine Zw (hr.at0 e ?_)
    unfold ub
    rw [Au, show Ba (Int.ofNat B[j].toNat) (Int.ofNat 10) = decide (B[j] = 10) from Ov B[j] 10]
    by_cases e10 : B[j] = 10
    · rw [A3w e e10] at hk
      rw [decide_eq_true e10]
      exact Bl rfl hk
    · rw [A3x e e10] at hk
      rw [decide_eq_false e10]
      refine Cd rfl (Fp (by omega) ?_)
      exact Avr hr hl n (j + 1) (by omega) e hk
  · have e : ¬ j < B.length := of_decide_eq_false e
    rw [Ay1 (by omega)] at hk
    exact Bl rfl hk
theorem Avq {h : H} {v : AV} {B : List UInt8} {k : KV} (hr : Rs h v B) (hl : B.length ≤ 1000000) :
 ∀ (n j : Nat), B.length - j + 1 ≤ n → j ≤ B.length + 2 → k (.tuple [.int .i64 (Int.ofNat (bkV B j).1), .bool (bkV B j).2]) h → (r79 W1 k n).a2 v (Int.ofNat j) h
 | 0, _, hn, _, _ => absurd hn (by omega)
 | n + 1, j, hn, hj, hk => by
  refine Bc4 ?_
  unfold Ami
  rw [hr.len, ilt]
  refine Bb (fun e => ?_) (fun e => ?_)
  · have e : j < B.length := of_decide_eq_true e
    refine Zw (hr.at0 e ?_)
    unfold ub
    rw [Au, show Ba (Int.ofNat B[j].toNat) (Int.ofNat 42) = decide (B[j] = 42) from Ov B[j] 42]
    refine Lq (b := decide (bt B (j + 1) = 47)) (fun k' hk' => Fp (by omega) ?_) ?_
    · refine La hr ?_
      unfold ub
      rw [Au, show Ba (Int.ofNat (bt B (j + 1)).toNat) (Int.ofNat 47) = decide (bt B (j + 1) = 47) from Ov _ 47]
      exact hk'
    · refine Bb (fun e2 => ?_) (fun e2 => ?_)
      · simp only [Bool.and_eq_true, decide_eq_true_eq] at e2
        have h1 : j + 1 < B.length := by
         rcases Nat.lt_or_ge (j + 1) B.length with h1 | h1
         · exact h1
         · have := e2.2; rw [Sd h1] at this; exact absurd this (by decide)
        have e3 := e2.2
        rw [Vm h1] at e3
        rw [Az9 h1 e2.1 e3] at hk
        exact Fp (by omega) hk
      · have hs : ¬ (B[j] = 42 ∧ ∃ h1 : j + 1 < B.length, B[j + 1] = 47) := fun hs => by
         obtain ⟨a, h1, b⟩ := hs
         rw [Vm h1, decide_eq_true a, decide_eq_true b] at e2; cases e2
        rw [A8n e hs] at hk
        refine Fp (by omega) ?_
        exact Avq hr hl n (j + 1) (by omega) (by omega) hk
  · have e : ¬ j < B.length := of_decide_eq_false e
    rw [A0a (by omega)] at hk
    rw [hr.len]
    exact hk
theorem Il {B : List UInt8} {i j : Nat} : at0 (B.drop i) j = bt B (i + j) := by
 unfold at0 bt
 rw [List.getD_eq_getElem?_getD, List.getD_eq_getElem?_getD, List.getElem?_drop]
def Azx (B : List UInt8) (i : Nat) : Nat × Bool := match Rp (B.drop i) with
 | none => (i, false)
 | some (n, b) => (i + n, b)
theorem Bfw {h : H} {v : AV} {B : List UInt8} {i : Nat} {k : KV} (hr : Rs h v B) (hl : B.length ≤ 1000000) (hi : i < B.length) (hk : k (.tuple [.int .i64 (Int.ofNat (Azx B i).1), .bool (Azx B i).2]) h) : W1 (.func 79) [v, .int .i64 (Int.ofNat i)] h k := by
 refine w79 (n := B.length + 5 + 1) Bj (g79 ?_)
 unfold Ahf
 have a0 : at0 (B.drop i) 0 = bt B i := Il
 have a1 : at0 (B.drop i) 1 = bt B (i + 1) := Il
 refine La hr ?_
 unfold ub
 rw [Au, show Ba (Int.ofNat (bt B i).toNat) (Int.ofNat 47) = decide (bt B i = 47) from Ov _ 47]
 unfold Azx Rp at hk
 rw [a0, a1] at hk
 by_cases h0 : bt B i = 47
 · rw [decide_eq_true h0]
   rw [if_neg (fun e => e h0)] at hk
   refine Bl rfl (Fp (by omega) (La hr ?_))
   unfold ub
   rw [Au, show Ba (Int.ofNat (bt B (i + 1)).toNat) (Int.ofNat 47) = decide (bt B (i + 1) = 47) from Ov _ 47]
   by_cases h1 : bt B (i + 1) = 47
   · rw [decide_eq_true h1]
     rw [if_pos h1] at hk
     exact Cd rfl (Avr hr hl _ i (by omega) (by omega) hk)
   · rw [decide_eq_false h1]
     rw [if_neg h1] at hk
     refine Bl rfl (Fp (by omega) (La hr ?_))
     unfold ub
     rw [Au, show Ba (Int.ofNat (bt B (i + 1)).toNat) (Int.ofNat 42) = decide (bt B (i + 1) = 42) from Ov _ 42]
     by_cases h2 : bt B (i + 1) = 42
     · rw [decide_eq_true h2]
       rw [if_neg (fun e => e h2)] at hk
       refine Bl rfl (Fp (by omega) (Avq hr hl _ (i + 2) (by omega) (by omega) ?_))
       unfold bkV
       rw [List.drop_drop] at hk
       cases hb : Td (B.drop (i + 2)) with
       | none =>
        rw [hb] at hk
        have : i + (B.drop i).length = B.length := by rw [List.length_drop]; omega
        simp only [this] at hk
        exact hk
       | some n =>
        rw [hb] at hk
        have : i + (n + 2) = i + 2 + n := by omega
        simp only [this] at hk
        exact hk
     · rw [decide_eq_false h2]
       rw [if_pos h2] at hk
       exact Cd rfl hk
 · rw [decide_eq_false h0]
   rw [if_pos h0] at hk
   exact Cd rfl hk
def Wu (B : List UInt8) (j : Nat) : Nat := j + Nh (B.drop j)
def isE (x : UInt8) : Bool := decide (x = 101) || decide (x = 69) || decide (x = 112) || decide (x = 80)
def Aft (x : UInt8) : Bool := decide (x = 43) || decide (x = 45)
def isW (x : UInt8) : Bool := Bd x || isDigit x || decide (x = 46)
theorem A3h {x y : UInt8} {r : List UInt8} : Nh (x :: y :: r) = if (x = 101 ∨ x = 69 ∨ x = 112 ∨ x = 80) ∧ (y = 43 ∨ y = 45) then 2 + Nh r else if Go.Lx.Bd x || Go.Lx.isDigit x || x == 46 then 1 + Nh (y :: r) else 0 := by rw [Nh]
theorem A3i {x : UInt8} : Nh [x] = if Go.Lx.Bd x || Go.Lx.isDigit x || x == 46 then 1 else 0 := by rw [Nh]
theorem Ata : Nh [] = 0 := by rw [Nh]
theorem At2 (x : UInt8) : (Go.Lx.Bd x || Go.Lx.isDigit x || x == 46) = isW x := by
 unfold isW
 have : (x == 46) = decide (x = 46) := rfl
 rw [this]; rfl
theorem An7 {x : UInt8} : isE x = true ↔ (x = 101 ∨ x = 69 ∨ x = 112 ∨ x = 80) := by
 unfold isE; simp only [Bool.or_eq_true, decide_eq_true_eq]; exact ⟨fun h => by rcases h with ((h | h) | h) | h <;> simp [h], fun h => by rcases h with h | h | h | h <;> simp [h]⟩
theorem Ain {x : UInt8} : Aft x = true ↔ (x = 43 ∨ x = 45) := by unfold Aft; simp
theorem Ayr {B : List UInt8} {j : Nat} : Wu B j = if (isE (bt B j) && Aft (bt B (j + 1))) = true then Wu B (j + 2) else if isW (bt B j) = true then Wu B (j + 1) else j := by
 rcases Nat.lt_or_ge j B.length with h | h
 · rw [Vm h]
   rcases Nat.lt_or_ge (j + 1) B.length with h1 | h1
   · rw [Vm h1]
     unfold Wu
     rw [drop_cons h, drop_cons h1, A3h, At2, show j + 1 + 1 = j + 2 from rfl]
     by_cases a : (isE B[j] && Aft B[j + 1]) = true
     · rw [if_pos a]
       simp only [Bool.and_eq_true] at a
       rw [if_pos ⟨An7.1 a.1, Ain.1 a.2⟩]
       omega
     · rw [if_neg a, if_neg (fun e => a (by simp only [Bool.and_eq_true]; exact ⟨An7.2 e.1, Ain.2 e.2⟩))]
       split <;> omega
   · rw [Sd h1]
     unfold Wu
     rw [drop_cons h, List.drop_eq_nil_of_le h1, A3i, At2, Ata]
     rw [show Aft 0 = false by decide, Bool.and_false, if_neg (show ¬ (false = true) by decide)]
     split <;> rfl
 · rw [Sd h]
   unfold Wu
   rw [List.drop_eq_nil_of_le h, Ata, show isE 0 = false by decide, Bool.false_and, if_neg (show ¬ (false = true) by decide), show isW 0 = false by decide, if_neg (show ¬ (false = true) by decide)]; rfl
theorem Agj {h : H} {v : AV} {B : List UInt8} {k : KV} (hr : Rs h v B) (hl : B.length ≤ 1000000) :
 ∀ (n j : Nat), B.length + 2 - j ≤ n → j ≤ B.length + 1 → k (.int .i64 (Int.ofNat (Wu B j))) h → (Aht W1 k n).a1 v (Int.ofNat j) h
 | 0, _, hn, hj, _ => absurd hn (by omega)
 | n + 1, j, hn, hj, hk => by
  refine A4j ?_
  unfold Aej
  rw [Ayr] at hk
  refine La hr ?_
  unfold ub
  rw [Au]
  refine Fp (by omega) (La hr ?_)
  unfold ub
  rw [Au]
  have q : ∀ (x : UInt8) (m : Nat) (hm : m < 256), Ba (Int.ofNat x.toNat) (Int.ofNat m) = decide (x = UInt8.ofNat m) := fun x m hm => by
   have : (UInt8.ofNat m).toNat = m := by simp [UInt8.toNat_ofNat']; omega
   have e := Ov x (UInt8.ofNat m)
   rw [this] at e; exact e
  refine Jg (Jg (Jg ?_))
  rw [q _ 101 (by decide), q _ 69 (by decide), q _ 112 (by decide), q _ 80 (by decide)]
  refine Lq (b := Aft (bt B (j + 1))) (fun k' hk' => Jg ?_) ?_
  · rw [q _ 43 (by decide), q _ 45 (by decide)]
    exact hk'
  · show cnd (isE (bt B j) && Aft (bt B (j + 1))) _ _
    by_cases a : (isE (bt B j) && Aft (bt B (j + 1))) = true
    · rw [if_pos a] at hk
      have hlt : j + 1 < B.length := by
       rcases Nat.lt_or_ge (j + 1) B.length with h1 | h1
       · exact h1
       · rw [Sd h1, show Aft 0 = false by decide, Bool.and_false] at a; cases a
      exact Cd a (Fp (by omega) (Agj hr hl n (j + 2) (by omega) (by omega) hk))
    · rw [if_neg a] at hk
      refine Bl (by simpa using a) ?_
      refine Dn (A8c _) ?_
      rw [Bv]
      refine Ou (b := isDigit (bt B j)) (fun k' hk' => Dn (Az5 _) (by rw [Bv]; exact hk')) ?_
      refine Jg ?_
      rw [q _ 46 (by decide)]
      show cnd (isW (bt B j)) _ _
      by_cases b : isW (bt B j) = true
      · rw [if_pos b] at hk
        have hlt : j < B.length := by
         rcases Nat.lt_or_ge j B.length with h1 | h1
         · exact h1
         · rw [Sd h1] at b; exact absurd b (by decide)
        exact Cd b (Fp (by omega) (Agj hr hl n (j + 1) (by omega) (by omega) hk))
      · rw [if_neg b] at hk
        exact Bl (by simpa using b) hk
theorem Azc (x : UInt8) (m : Nat) (hm : m < 256) : Ba (Int.ofNat x.toNat) (Int.ofNat m) = decide (x = UInt8.ofNat m) := by
 have : (UInt8.ofNat m).toNat = m := by simp [UInt8.toNat_ofNat']; omega
 have e := Ov x (UInt8.ofNat m)
 rw [this] at e; exact e
theorem An3 (x : UInt8) : Go.Lx.isDigit x = isDigit x := rfl
theorem Atj (x : UInt8) : Go.Lx.Bd x = Bd x := rfl
theorem A8b {h : H} {v : AV} {B : List UInt8} {i : Nat} {k : KV} (hr : Rs h v B) (hl : B.length ≤ 1000000) (hi : i < B.length) (hk : k (.int .i64 (Int.ofNat (i + Wv (B.drop i)))) h) : W1 (.func 134) [v, .int .i64 (Int.ofNat i)] h k := by
 refine A9t (n := B.length + 5 + 1) Bj (Bj9 ?_)
 unfold Aek
 have a0 : at0 (B.drop i) 0 = bt B i := Il
 have a1 : at0 (B.drop i) 1 = bt B (i + 1) := Il
 unfold Wv at hk
 rw [a0, a1, An3, An3, List.drop_drop] at hk
 refine La hr ?_
 unfold ub
 rw [Au]
 refine Dn (Az5 _) ?_
 rw [Bv]
 refine Lq (b := !(decide (bt B i = 46)) || !(isDigit (bt B (i + 1)))) (fun k' hk' => La hr ?_) ?_
 · unfold ub
   rw [Au, Azc _ 46 (by decide)]
   refine Ou (b := !(isDigit (bt B (i + 1)))) (fun k'' hk'' => Fp (by omega) (La hr ?_)) ?_
   · unfold ub
     rw [Au]
     refine Dn (Az5 _) ?_
     rw [Bv]
     exact (Bq _).symm ▸ hk''
   · exact (Bq (decide (bt B i = UInt8.ofNat 46))).symm ▸ hk'
 · rw [Bq]
   have he : (bt B i == 46) = decide (bt B i = 46) := rfl
   rw [he] at hk
   by_cases a : (isDigit (bt B i) || decide (bt B i = 46) && isDigit (bt B (i + 1))) = true
   · rw [if_pos a] at hk
     refine Bl ?_ (Fp (by omega) (Agj hr hl _ (i + 1) (by omega) (by omega) ?_))
     · cases h1 : isDigit (bt B i) <;> cases h2 : decide (bt B i = 46) <;> cases h3 : isDigit (bt B (i + 1)) <;> simp_all
     · unfold Wu
       have : i + 1 + Nh (B.drop (i + 1)) = i + (1 + Nh (B.drop (i + 1))) := by omega
       rw [this]; exact hk
   · rw [if_neg a] at hk
     refine Cd ?_ hk
     cases h1 : isDigit (bt B i) <;> cases h2 : decide (bt B i = 46) <;> cases h3 : isDigit (bt B (i + 1)) <;> simp_all
def idV (B : List UInt8) (j : Nat) : Nat := j + idL (B.drop j)
theorem A4v {B : List UInt8} {j : Nat} : idV B j = if (Bd (bt B j) || isDigit (bt B j)) = true then idV B (j + 1) else j := by
 rcases Nat.lt_or_ge j B.length with h | h
 · rw [Vm h]
   unfold idV idL
   rw [drop_cons h, List.takeWhile_cons]
   by_cases a : (Bd B[j] || isDigit B[j]) = true
   · rw [if_pos a, if_pos (show (Go.Lx.Bd B[j] || Go.Lx.isDigit B[j]) = true from a)]
     simp only [List.length_cons]; omega
   · rw [if_neg a, if_neg (show ¬ (Go.Lx.Bd B[j] || Go.Lx.isDigit B[j]) = true from a)]; rfl
 · rw [Sd h, if_neg (by decide)]
   unfold idV idL
   rw [List.drop_eq_nil_of_le h]; rfl
theorem Avp {h : H} {v : AV} {B : List UInt8} {k : KV} (hr : Rs h v B) (hl : B.length ≤ 1000000) :
 ∀ (n j : Nat), B.length + 1 - j ≤ n → j ≤ B.length → k (.tuple [.int .i64 (Int.ofNat 1), .int .i64 (Int.ofNat (idV B j)), .bool false]) h → (r80 W1 k n).a1 v (Int.ofNat j) h
 | 0, _, hn, hj, _ => absurd hn (by omega)
 | n + 1, j, hn, hj, hk => by
  refine Bc3 ?_
  unfold Amg
  rw [A4v] at hk
  refine La hr ?_
  unfold ub
  rw [Au]
  refine Dn (A8c _) ?_
  rw [Bv]
  refine Ou (b := isDigit (bt B j)) (fun k' hk' => La hr ?_) ?_
  · unfold ub
    rw [Au]
    exact Dn (Az5 _) (by rw [Bv]; exact hk')
  · by_cases a : (Bd (bt B j) || isDigit (bt B j)) = true
    · rw [if_pos a] at hk
      have hlt : j < B.length := by
       rcases Nat.lt_or_ge j B.length with h1 | h1
       · exact h1
       · rw [Sd h1] at a; exact absurd a (by decide)
      exact Cd a (Fp (by omega) (Avp hr hl n (j + 1) (by omega) hlt hk))
    · rw [if_neg a] at hk
      exact Bl (by simpa using a) hk
end Go.Den
