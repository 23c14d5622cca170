/-
 Part of the proof.
-/
import Derived.Test.YtcnmehbkpaoolaaGreatDoorLex6
import Derived.Test.YtcnmehbkpaoolaaGreatDoorLexs
set_option maxRecDepth 100000
namespace Go.Den
open Go.RowKit
open Go.Lx (Gz Mb Ui Qp Ti Gw Ov Wg idL Afu at0)
theorem drop_cons {B : List UInt8} {j : Nat} (h : j < B.length) : B.drop j = B[j] :: B.drop (j + 1) := List.drop_eq_getElem_cons h
theorem Fu {a b : Nat} {K : Int → Prop} (h : a + b ≤ 1000000000) (hk : K (Int.ofNat (a + b))) : fI (wrap .i64 (Br (Int.ofNat a) (Int.ofNat b))) K := by rw [Dl, Co (by omega), As]; exact hk
theorem Azk {n : Nat} {K : Nat → Prop} (hk : K n) : Ci (Int.ofNat n) K := by rw [Ar]; exact hk
theorem Akw {q x y : UInt8} {r : List UInt8} : Gz q (x :: y :: r) = if x = 10 then none else if x = 92 ∧ y ≠ 10 then (Gz q r).map (· + 2) else if x = q then some 1 else (Gz q (y :: r)).map (· + 1) := by rw [Gz]
theorem As9 {q x : UInt8} : Gz q [x] = if x = 10 then none else if x = q then some 1 else none := by rw [Gz]
def Ss (q : UInt8) (B : List UInt8) (j : Nat) : Nat := match Gz q (B.drop j) with
 | some n => j + n
 | none => 0
theorem As8 {q : UInt8} {B : List UInt8} {j : Nat} (h : B.length ≤ j) : Ss q B j = 0 := by
 unfold Ss; rw [List.drop_eq_nil_of_le h]; simp [Gz]
theorem Ayz {q : UInt8} {B : List UInt8} {j : Nat} (h : j < B.length) (e : B[j] = 10) : Ss q B j = 0 := by
 unfold Ss
 rw [drop_cons h, e]
 cases B.drop (j + 1) with
 | nil => simp [Gz]
 | cons y r => simp [Gz]
theorem As7 {q : UInt8} {B : List UInt8} {j : Nat} (h : j + 1 < B.length) (e : B[j] = 92) (e1 : B[j + 1] ≠ 10) : Ss q B j = Ss q B (j + 2) := by
 unfold Ss
 rw [drop_cons (show j < B.length by omega), drop_cons h, e]
 rw [Akw, if_neg (by decide), if_pos ⟨rfl, e1⟩]
 cases Gz q (B.drop (j + 1 + 1)) with
 | none => rfl
 | some n => show j + (n + 2) = j + 2 + n; omega
theorem A3k {q : UInt8} {B : List UInt8} {j : Nat} (h : j < B.length) (e : B[j] = q) (e10 : B[j] ≠ 10) (hs : ¬ (B[j] = 92 ∧ ∃ h1 : j + 1 < B.length, B[j + 1] ≠ 10)) : Ss q B j = j + 1 := by
 unfold Ss
 rw [drop_cons h]
 cases hd : B.drop (j + 1) with
 | nil => rw [As9, if_neg e10, if_pos e]
 | cons y r =>
  have h1 : j + 1 < B.length := by
   rcases Nat.lt_or_ge (j + 1) B.length with h1 | h1
   · exact h1
   · rw [List.drop_eq_nil_of_le h1] at hd; cases hd
  rw [drop_cons h1] at hd
  have hy : B[j + 1] = y := by injection hd
  rw [Akw, if_neg e10, if_neg (fun e' => hs ⟨e'.1, h1, by rw [hy]; exact e'.2⟩), if_pos e]
theorem Ay0 {q : UInt8} {B : List UInt8} {j : Nat} (h : j < B.length) (e : B[j] ≠ q) (e10 : B[j] ≠ 10) (hs : ¬ (B[j] = 92 ∧ ∃ h1 : j + 1 < B.length, B[j + 1] ≠ 10)) : Ss q B j = Ss q B (j + 1) := by
 unfold Ss
 rw [drop_cons h]
 cases hd : B.drop (j + 1) with
 | nil => rw [As9, if_neg e10, if_neg e]; simp [Gz]
 | cons y r =>
  have h1 : j + 1 < B.length := by
   rcases Nat.lt_or_ge (j + 1) B.length with h1 | h1
   · exact h1
   · rw [List.drop_eq_nil_of_le h1] at hd; cases hd
  have hd' := hd
  rw [drop_cons h1] at hd'
  have hy : B[j + 1] = y := by injection hd'
  rw [Akw, if_neg e10, if_neg (fun e' => hs ⟨e'.1, h1, by rw [hy]; exact e'.2⟩), if_neg e]
  cases Gz q (y :: r) with
  | none => rfl
  | some n => show j + (n + 1) = j + 1 + n; omega
theorem Agt {h : H} {v : AV} {B : List UInt8} {q : UInt8} {k : KV} (hr : Rs h v B) (hl : B.length ≤ 1000000) :
    ∀ (n j : Nat), 2 * (B.length - j) + 1 ≤ n → j ≤ B.length → k (.int .i64 (Int.ofNat (Ss q B j))) h → (Zs W1 k n).a1 v (Int.ofNat q.toNat) (Int.ofNat j) h
  | 0, _, hn, _, _ => absurd hn (by omega)
  | n + 1, j, hn, hj, hk => by
    refine A5d ?_
    unfold Aey
    rw [hr.len, ilt]
    refine Gu (fun e => ?_) (fun e => ?_)
    · have e : j < B.length := of_decide_eq_true e
      obtain ⟨m, rfl⟩ : ∃ m, n = m + 1 := ⟨n - 1, by omega⟩
      rw [Ar]
      refine hr.at0 e ?_
      unfold ub
      rw [Au, show Az (Int.ofNat B[j].toNat) (Int.ofNat 10) = decide (B[j] = 10) from Pd B[j] 10]
      refine Aw (fun e10 => ?_) (fun e10 => ?_)
      · have e10 : B[j] ≠ 10 := by
          intro e'; rw [e'] at e10; exact absurd e10 (by decide)
        rw [Ar]
        refine hr.at0 e ?_
        unfold ub
        rw [Au, show Az (Int.ofNat B[j].toNat) (Int.ofNat 92) = decide (B[j] = 92) from Pd B[j] 92]
        refine Li (b := decide (j + 1 < B.length)) (fun k' hk' => ?_) ?_
        · rw [Dl, Co (by omega), As, hr.len, ilt]; exact hk'
        have rest : ¬ (B[j] = 92 ∧ ∃ h1 : j + 1 < B.length, B[j + 1] ≠ 10) → Ci (Int.ofNat j) fun m34 => Ca 3 m34 v fun v35 => Aq 0 v35 fun v36 => ld1 v36 h fun v37 => asI .u8 v37 fun n38 =>
            cnd (Az n38 (Int.ofNat q.toNat)) (fI (wrap .i64 (Br (Int.ofNat j) (Int.ofNat 1))) fun n39 => k (.int .i64 n39) h) ((Zs W1 k (m + 1)).a2 v (Int.ofNat q.toNat) (Int.ofNat j) h) := fun hs => by
          rw [Ar]
          refine hr.at0 e ?_
          unfold ub
          rw [Au, show Az (Int.ofNat B[j].toNat) (Int.ofNat q.toNat) = decide (B[j] = q) from Pd B[j] q]
          refine Aw (fun e' => ?_) (fun e' => ?_)
          · rw [Dl, Co (by omega), As]
            rw [A3k e (of_decide_eq_true e') e10 hs] at hk; exact hk
          · rw [Ay0 e (of_decide_eq_false e') e10 hs] at hk
            refine Auc ?_
            unfold Zk
            rw [Dl, Co (by omega), As]
            exact Agt hr hl m (j + 1) (by omega) e hk
        refine Gu (fun e2 => ?_) (fun e2 => ?_)
        · simp only [Bool.and_eq_true, decide_eq_true_eq] at e2
          refine Fu (by omega) (Azk ?_)
          refine hr.at0 e2.2 ?_
          unfold ub
          rw [Au, show Az (Int.ofNat B[j + 1].toNat) (Int.ofNat 10) = decide (B[j + 1] = 10) from Pd B[j + 1] 10]
          refine Aw (fun e3 => ?_) (fun e3 => ?_)
          · have e3 : B[j + 1] ≠ 10 := by
              intro e'; rw [e'] at e3; exact absurd e3 (by decide)
            refine Fu (by omega) ?_
            refine Auc ?_
            unfold Zk
            rw [Dl, Co (by omega), As]
            rw [As7 e2.2 e2.1 e3] at hk
            exact Agt hr hl m (j + 2) (by omega) e2.2 hk
          · exact rest fun hs => by
              obtain ⟨_, h1, h2⟩ := hs
              rw [decide_eq_false h2] at e3; cases e3
        · exact Bp rfl (rest fun hs => by
            obtain ⟨h0, h1, _⟩ := hs
            rw [decide_eq_true h0, decide_eq_true h1] at e2; cases e2)
      · have e10 : B[j] = 10 := by
          by_cases e' : B[j] = 10
          · exact e'
          · rw [decide_eq_false e'] at e10; cases e10
        rw [Ayz e e10] at hk; exact hk
    · have e : ¬ j < B.length := of_decide_eq_false e
      rw [As8 (by omega)] at hk
      exact Bp rfl hk
def lnV (B : List UInt8) (j : Nat) : Nat := j + ((B.drop j).takeWhile (· ≠ 10)).length
def bkV (B : List UInt8) (j : Nat) : Nat × Bool := match Ti (B.drop j) with
 | some n => (j + n, false)
 | none => (B.length, true)
theorem A4q {B : List UInt8} {j : Nat} (h : j < B.length) (e : B[j] ≠ 10) : lnV B j = lnV B (j + 1) := by
 unfold lnV
 rw [drop_cons h, List.takeWhile_cons, if_pos (by simpa using e)]
 simp only [List.length_cons]; omega
theorem A4p {B : List UInt8} {j : Nat} (h : j < B.length) (e : B[j] = 10) : lnV B j = j := by
 unfold lnV
 rw [drop_cons h, List.takeWhile_cons, if_neg (by simpa using e)]; rfl
theorem Azp {B : List UInt8} {j : Nat} (h : B.length ≤ j) : lnV B j = j := by
 unfold lnV; rw [List.drop_eq_nil_of_le h]; rfl
theorem Awl {x y : UInt8} {r : List UInt8} : Ti (x :: y :: r) = if x = 42 ∧ y = 47 then some 2 else (Ti (y :: r)).map (· + 1) := by rw [Ti]
theorem A9f {x : UInt8} : Ti [x] = none := by rw [Ti]
theorem Awm : Ti [] = none := by rw [Ti]
theorem A0x {B : List UInt8} {j : Nat} (h : B.length ≤ j) : bkV B j = (B.length, true) := by
 unfold bkV; rw [List.drop_eq_nil_of_le h, Awm]
theorem A0w {B : List UInt8} {j : Nat} (h : j + 1 < B.length) (e : B[j] = 42) (e1 : B[j + 1] = 47) : bkV B j = (j + 2, false) := by
 unfold bkV; rw [drop_cons (show j < B.length by omega), drop_cons h, Awl, if_pos ⟨e, e1⟩]
theorem A9g {B : List UInt8} {j : Nat} (h : j < B.length) (hs : ¬ (B[j] = 42 ∧ ∃ h1 : j + 1 < B.length, B[j + 1] = 47)) : bkV B j = bkV B (j + 1) := by
 unfold bkV
 rw [drop_cons h]
 cases hd : B.drop (j + 1) with
 | nil => rw [A9f, Awm]
 | cons y r =>
  have h1 : j + 1 < B.length := by
   rcases Nat.lt_or_ge (j + 1) B.length with h1 | h1
   · exact h1
   · rw [List.drop_eq_nil_of_le h1] at hd; cases hd
  have hd' := hd
  rw [drop_cons h1] at hd'
  have hy : B[j + 1] = y := by injection hd'
  rw [Awl, if_neg (fun e' => hs ⟨e'.1, h1, by rw [hy]; exact e'.2⟩)]
  cases Ti (y :: r) with
  | none => rfl
  | some n => show (j + (n + 1), false) = (j + 1 + n, false); congr 1; omega
theorem Av6 {h : H} {v : AV} {B : List UInt8} {k : KV} (hr : Rs h v B) (hl : B.length ≤ 1000000) :
    ∀ (n j : Nat), B.length - j + 1 ≤ n → j ≤ B.length → k (.tuple [.int .i64 (Int.ofNat (lnV B j)), .bool false]) h → (r79 W1 k n).a1 v (Int.ofNat j) h
  | 0, _, hn, _, _ => absurd hn (by omega)
  | n + 1, j, hn, hj, hk => by
    refine Bdv ?_
    unfold Amy
    rw [hr.len, ilt]
    refine Gu (fun e => ?_) (fun e => ?_)
    · have e : j < B.length := of_decide_eq_true e
      refine Aaf (hr.at0 e ?_)
      unfold ub
      rw [Au, show Az (Int.ofNat B[j].toNat) (Int.ofNat 10) = decide (B[j] = 10) from Pd B[j] 10]
      by_cases e10 : B[j] = 10
      · rw [A4p e e10] at hk
        rw [decide_eq_true e10]
        exact Bp rfl hk
      · rw [A4q e e10] at hk
        rw [decide_eq_false e10]
        refine Cg rfl (Fu (by omega) ?_)
        exact Av6 hr hl n (j + 1) (by omega) e hk
    · have e : ¬ j < B.length := of_decide_eq_false e
      rw [Azp (by omega)] at hk
      exact Bp rfl hk
theorem Av5 {h : H} {v : AV} {B : List UInt8} {k : KV} (hr : Rs h v B) (hl : B.length ≤ 1000000) :
    ∀ (n j : Nat), B.length - j + 1 ≤ n → j ≤ B.length + 2 → k (.tuple [.int .i64 (Int.ofNat (bkV B j).1), .bool (bkV B j).2]) h → (r79 W1 k n).a2 v (Int.ofNat j) h
  | 0, _, hn, _, _ => absurd hn (by omega)
  | n + 1, j, hn, hj, hk => by
    refine Bdu ?_
    unfold Amx
    rw [hr.len, ilt]
    refine Aw (fun e => ?_) (fun e => ?_)
    · have e : j < B.length := of_decide_eq_true e
      refine Aaf (hr.at0 e ?_)
      unfold ub
      rw [Au, show Az (Int.ofNat B[j].toNat) (Int.ofNat 42) = decide (B[j] = 42) from Pd B[j] 42]
      refine Li (b := decide (bt B (j + 1) = 47)) (fun k' hk' => Fu (by omega) ?_) ?_
      · refine Lf hr ?_
        unfold ub
        rw [Au, show Az (Int.ofNat (bt B (j + 1)).toNat) (Int.ofNat 47) = decide (bt B (j + 1) = 47) from Pd _ 47]
        exact hk'
      · refine Aw (fun e2 => ?_) (fun e2 => ?_)
        · simp only [Bool.and_eq_true, decide_eq_true_eq] at e2
          have h1 : j + 1 < B.length := by
            rcases Nat.lt_or_ge (j + 1) B.length with h1 | h1
            · exact h1
            · have := e2.2; rw [Sm h1] at this; exact absurd this (by decide)
          have e3 := e2.2
          rw [Vp h1] at e3
          rw [A0w h1 e2.1 e3] at hk
          exact Fu (by omega) hk
        · have hs : ¬ (B[j] = 42 ∧ ∃ h1 : j + 1 < B.length, B[j + 1] = 47) := fun hs => by
            obtain ⟨a, h1, b⟩ := hs
            rw [Vp h1, decide_eq_true a, decide_eq_true b] at e2; cases e2
          rw [A9g e hs] at hk
          refine Fu (by omega) ?_
          exact Av5 hr hl n (j + 1) (by omega) (by omega) hk
    · have e : ¬ j < B.length := of_decide_eq_false e
      rw [A0x (by omega)] at hk
      rw [hr.len]
      exact hk
theorem It {B : List UInt8} {i j : Nat} : at0 (B.drop i) j = bt B (i + j) := by
 unfold at0 bt
 rw [List.getD_eq_getElem?_getD, List.getD_eq_getElem?_getD, List.getElem?_drop]
def A0g (B : List UInt8) (i : Nat) : Nat × Bool := match Qp (B.drop i) with
 | none => (i, false)
 | some (n, b) => (i + n, b)
theorem Bgm {h : H} {v : AV} {B : List UInt8} {i : Nat} {k : KV} (hr : Rs h v B) (hl : B.length ≤ 1000000) (hi : i < B.length) (hk : k (.tuple [.int .i64 (Int.ofNat (A0g B i).1), .bool (A0g B i).2]) h) : W1 (.func 79) [v, .int .i64 (Int.ofNat i)] h k := by
 refine w79 (n := B.length + 5 + 1) Bn (g79 ?_)
 unfold Ahq
 have a0 : at0 (B.drop i) 0 = bt B i := It
 have a1 : at0 (B.drop i) 1 = bt B (i + 1) := It
 refine Lf hr ?_
 unfold ub
 rw [Au, show Az (Int.ofNat (bt B i).toNat) (Int.ofNat 47) = decide (bt B i = 47) from Pd _ 47]
 unfold A0g Qp at hk
 rw [a0, a1] at hk
 by_cases h0 : bt B i = 47
 · rw [decide_eq_true h0]
   rw [if_neg (fun e => e h0)] at hk
   refine Bp rfl (Fu (by omega) (Lf hr ?_))
   unfold ub
   rw [Au, show Az (Int.ofNat (bt B (i + 1)).toNat) (Int.ofNat 47) = decide (bt B (i + 1) = 47) from Pd _ 47]
   by_cases h1 : bt B (i + 1) = 47
   · rw [decide_eq_true h1]
     rw [if_pos h1] at hk
     exact Cg rfl (Av6 hr hl _ i (by omega) (by omega) hk)
   · rw [decide_eq_false h1]
     rw [if_neg h1] at hk
     refine Bp rfl (Fu (by omega) (Lf hr ?_))
     unfold ub
     rw [Au, show Az (Int.ofNat (bt B (i + 1)).toNat) (Int.ofNat 42) = decide (bt B (i + 1) = 42) from Pd _ 42]
     by_cases h2 : bt B (i + 1) = 42
     · rw [decide_eq_true h2]
       rw [if_neg (fun e => e h2)] at hk
       refine Bp rfl (Fu (by omega) (Av5 hr hl _ (i + 2) (by omega) (by omega) ?_))
       unfold bkV
       rw [List.drop_drop] at hk
       cases hb : Ti (B.drop (i + 2)) with
       | none =>
        rw [hb] at hk
        have : i + (B.drop i).length = B.length := by rw [List.length_drop]; omega
        simp only [this] at hk
        exact hk
       | some n =>
        rw [hb] at hk
        have : i + (n + 2) = i + 2 + n := by omega
        simp only [this] at hk
        exact hk
     · rw [decide_eq_false h2]
       rw [if_pos h2] at hk
       exact Cg rfl hk
 · rw [decide_eq_false h0]
   rw [if_pos h0] at hk
   exact Cg rfl hk
def Xc (B : List UInt8) (j : Nat) : Nat := j + Mb (B.drop j)
def isE (x : UInt8) : Bool := decide (x = 101) || decide (x = 69) || decide (x = 112) || decide (x = 80)
def Af4 (x : UInt8) : Bool := decide (x = 43) || decide (x = 45)
def isW (x : UInt8) : Bool := Dx x || isDigit x || decide (x = 46)
theorem A4a {x y : UInt8} {r : List UInt8} : Mb (x :: y :: r) = if (x = 101 ∨ x = 69 ∨ x = 112 ∨ x = 80) ∧ (y = 43 ∨ y = 45) then 2 + Mb r else if Go.Lx.Dx x || Go.Lx.isDigit x || x == 46 then 1 + Mb (y :: r) else 0 := by rw [Mb]
theorem A4b {x : UInt8} : Mb [x] = if Go.Lx.Dx x || Go.Lx.isDigit x || x == 46 then 1 else 0 := by rw [Mb]
theorem Atp : Mb [] = 0 := by rw [Mb]
theorem Auf (x : UInt8) : (Go.Lx.Dx x || Go.Lx.isDigit x || x == 46) = isW x := by
 unfold isW
 have : (x == 46) = decide (x = 46) := rfl
 rw [this]; rfl
theorem Aoq {x : UInt8} : isE x = true ↔ (x = 101 ∨ x = 69 ∨ x = 112 ∨ x = 80) := by
 unfold isE; simp only [Bool.or_eq_true, decide_eq_true_eq]; exact ⟨fun h => by rcases h with ((h | h) | h) | h <;> simp [h], fun h => by rcases h with h | h | h | h <;> simp [h]⟩
theorem Aiz {x : UInt8} : Af4 x = true ↔ (x = 43 ∨ x = 45) := by unfold Af4; simp
theorem Azf {B : List UInt8} {j : Nat} : Xc B j = if (isE (bt B j) && Af4 (bt B (j + 1))) = true then Xc B (j + 2) else if isW (bt B j) = true then Xc B (j + 1) else j := by
 rcases Nat.lt_or_ge j B.length with h | h
 · rw [Vp h]
   rcases Nat.lt_or_ge (j + 1) B.length with h1 | h1
   · rw [Vp h1]
     unfold Xc
     rw [drop_cons h, drop_cons h1, A4a, Auf, show j + 1 + 1 = j + 2 from rfl]
     by_cases a : (isE B[j] && Af4 B[j + 1]) = true
     · rw [if_pos a]
       simp only [Bool.and_eq_true] at a
       rw [if_pos ⟨Aoq.1 a.1, Aiz.1 a.2⟩]
       omega
     · rw [if_neg a, if_neg (fun e => a (by simp only [Bool.and_eq_true]; exact ⟨Aoq.2 e.1, Aiz.2 e.2⟩))]
       split <;> omega
   · rw [Sm h1]
     unfold Xc
     rw [drop_cons h, List.drop_eq_nil_of_le h1, A4b, Auf, Atp]
     rw [show Af4 0 = false by decide, Bool.and_false, if_neg (show ¬ (false = true) by decide)]
     split <;> rfl
 · rw [Sm h]
   unfold Xc
   rw [List.drop_eq_nil_of_le h, Atp, show isE 0 = false by decide, Bool.false_and, if_neg (show ¬ (false = true) by decide), show isW 0 = false by decide, if_neg (show ¬ (false = true) by decide)]; rfl
theorem Ags {h : H} {v : AV} {B : List UInt8} {k : KV} (hr : Rs h v B) (hl : B.length ≤ 1000000) :
    ∀ (n j : Nat), B.length + 2 - j ≤ n → j ≤ B.length + 1 → k (.int .i64 (Int.ofNat (Xc B j))) h → (Ah5 W1 k n).a1 v (Int.ofNat j) h
  | 0, _, hn, hj, _ => absurd hn (by omega)
  | n + 1, j, hn, hj, hk => by
    refine A5c ?_
    unfold Aeu
    rw [Azf] at hk
    refine Lf hr ?_
    unfold ub
    rw [Au]
    refine Fu (by omega) (Lf hr ?_)
    unfold ub
    rw [Au]
    have q : ∀ (x : UInt8) (m : Nat) (hm : m < 256), Az (Int.ofNat x.toNat) (Int.ofNat m) = decide (x = UInt8.ofNat m) := fun x m hm => by
      have : (UInt8.ofNat m).toNat = m := by simp [UInt8.toNat_ofNat']; omega
      have e := Pd x (UInt8.ofNat m)
      rw [this] at e; exact e
    refine Kg (Kg (Kg ?_))
    rw [q _ 101 (by decide), q _ 69 (by decide), q _ 112 (by decide), q _ 80 (by decide)]
    refine Li (b := Af4 (bt B (j + 1))) (fun k' hk' => Kg ?_) ?_
    · rw [q _ 43 (by decide), q _ 45 (by decide)]
      exact hk'
    · show cnd (isE (bt B j) && Af4 (bt B (j + 1))) _ _
      by_cases a : (isE (bt B j) && Af4 (bt B (j + 1))) = true
      · rw [if_pos a] at hk
        have hlt : j + 1 < B.length := by
          rcases Nat.lt_or_ge (j + 1) B.length with h1 | h1
          · exact h1
          · rw [Sm h1, show Af4 0 = false by decide, Bool.and_false] at a; cases a
        exact Cg a (Fu (by omega) (Ags hr hl n (j + 2) (by omega) (by omega) hk))
      · rw [if_neg a] at hk
        refine Bp (by simpa using a) ?_
        refine Dq (A86 _) ?_
        rw [Ce]
        refine Ma (b := isDigit (bt B j)) (fun k' hk' => Dq (A0p _) (by rw [Ce]; exact hk')) ?_
        refine Kg ?_
        rw [q _ 46 (by decide)]
        show cnd (isW (bt B j)) _ _
        by_cases b : isW (bt B j) = true
        · rw [if_pos b] at hk
          have hlt : j < B.length := by
            rcases Nat.lt_or_ge j B.length with h1 | h1
            · exact h1
            · rw [Sm h1] at b; exact absurd b (by decide)
          exact Cg b (Fu (by omega) (Ags hr hl n (j + 1) (by omega) (by omega) hk))
        · rw [if_neg b] at hk
          exact Bp (by simpa using b) hk
theorem Azv (x : UInt8) (m : Nat) (hm : m < 256) : Az (Int.ofNat x.toNat) (Int.ofNat m) = decide (x = UInt8.ofNat m) := by
 have : (UInt8.ofNat m).toNat = m := by simp [UInt8.toNat_ofNat']; omega
 have e := Pd x (UInt8.ofNat m)
 rw [this] at e; exact e
theorem Aol (x : UInt8) : Go.Lx.isDigit x = isDigit x := rfl
theorem Aty (x : UInt8) : Go.Lx.Dx x = Dx x := rfl
theorem A85 {h : H} {v : AV} {B : List UInt8} {i : Nat} {k : KV} (hr : Rs h v B) (hl : B.length ≤ 1000000) (hi : i < B.length) (hk : k (.int .i64 (Int.ofNat (i + Ui (B.drop i)))) h) : W1 (.func 134) [v, .int .i64 (Int.ofNat i)] h k := by
 refine Bao (n := B.length + 5 + 1) Bn (Bk1 ?_)
 unfold Aev
 have a0 : at0 (B.drop i) 0 = bt B i := It
 have a1 : at0 (B.drop i) 1 = bt B (i + 1) := It
 unfold Ui at hk
 rw [a0, a1, Aol, Aol, List.drop_drop] at hk
 refine Lf hr ?_
 unfold ub
 rw [Au]
 refine Dq (A0p _) ?_
 rw [Ce]
 refine Li (b := !(decide (bt B i = 46)) || !(isDigit (bt B (i + 1)))) (fun k' hk' => Lf hr ?_) ?_
 · unfold ub
   rw [Au, Azv _ 46 (by decide)]
   refine Ma (b := !(isDigit (bt B (i + 1)))) (fun k'' hk'' => Fu (by omega) (Lf hr ?_)) ?_
   · unfold ub
     rw [Au]
     refine Dq (A0p _) ?_
     rw [Ce]
     exact (Bw _).symm ▸ hk''
   · exact (Bw (decide (bt B i = UInt8.ofNat 46))).symm ▸ hk'
 · rw [Bw]
   have he : (bt B i == 46) = decide (bt B i = 46) := rfl
   rw [he] at hk
   by_cases a : (isDigit (bt B i) || decide (bt B i = 46) && isDigit (bt B (i + 1))) = true
   · rw [if_pos a] at hk
     refine Bp ?_ (Fu (by omega) (Ags hr hl _ (i + 1) (by omega) (by omega) ?_))
     · cases h1 : isDigit (bt B i) <;> cases h2 : decide (bt B i = 46) <;> cases h3 : isDigit (bt B (i + 1)) <;> simp_all
     · unfold Xc
       have : i + 1 + Mb (B.drop (i + 1)) = i + (1 + Mb (B.drop (i + 1))) := by omega
       rw [this]; exact hk
   · rw [if_neg a] at hk
     refine Cg ?_ hk
     cases h1 : isDigit (bt B i) <;> cases h2 : decide (bt B i = 46) <;> cases h3 : isDigit (bt B (i + 1)) <;> simp_all
def idV (B : List UInt8) (j : Nat) : Nat := j + idL (B.drop j)
theorem A5o {B : List UInt8} {j : Nat} : idV B j = if (Dx (bt B j) || isDigit (bt B j)) = true then idV B (j + 1) else j := by
 rcases Nat.lt_or_ge j B.length with h | h
 · rw [Vp h]
   unfold idV idL
   rw [drop_cons h, List.takeWhile_cons]
   by_cases a : (Dx B[j] || isDigit B[j]) = true
   · rw [if_pos a, if_pos (show (Go.Lx.Dx B[j] || Go.Lx.isDigit B[j]) = true from a)]
     simp only [List.length_cons]; omega
   · rw [if_neg a, if_neg (show ¬ (Go.Lx.Dx B[j] || Go.Lx.isDigit B[j]) = true from a)]; rfl
 · rw [Sm h, if_neg (by decide)]
   unfold idV idL
   rw [List.drop_eq_nil_of_le h]; rfl
theorem Av4 {h : H} {v : AV} {B : List UInt8} {k : KV} (hr : Rs h v B) (hl : B.length ≤ 1000000) :
    ∀ (n j : Nat), B.length + 1 - j ≤ n → j ≤ B.length → k (.tuple [.int .i64 (Int.ofNat 1), .int .i64 (Int.ofNat (idV B j)), .bool false]) h → (r80 W1 k n).a1 v (Int.ofNat j) h
  | 0, _, hn, hj, _ => absurd hn (by omega)
  | n + 1, j, hn, hj, hk => by
    refine Bdt ?_
    unfold Amv
    rw [A5o] at hk
    refine Lf hr ?_
    unfold ub
    rw [Au]
    refine Dq (A86 _) ?_
    rw [Ce]
    refine Ma (b := isDigit (bt B j)) (fun k' hk' => Lf hr ?_) ?_
    · unfold ub
      rw [Au]
      exact Dq (A0p _) (by rw [Ce]; exact hk')
    · by_cases a : (Dx (bt B j) || isDigit (bt B j)) = true
      · rw [if_pos a] at hk
        have hlt : j < B.length := by
          rcases Nat.lt_or_ge j B.length with h1 | h1
          · exact h1
          · rw [Sm h1] at a; exact absurd a (by decide)
        exact Cg a (Fu (by omega) (Av4 hr hl n (j + 1) (by omega) hlt hk))
      · rw [if_neg a] at hk
        exact Bp (by simpa using a) hk
end Go.Den
namespace Go.Den
open Go.RowKit
open Go.Lx (Gz Mb Ui Qp Ti Ov Wg idL Afu at0)
theorem A87 {h : H} {v : AV} {B : List UInt8} {i : Nat} {k : KV} (hr : Rs h v B) (hl : B.length ≤ 1000000) (hi : i < B.length) (hk : k (.int .i64 (Int.ofNat (Ss (bt B i) B (i + 1)))) h) : W1 (.func 131) [v, .int .i64 (Int.ofNat i)] h k := by
 refine Bar (n := 2 * B.length + 4 + 1) Bn (Bk4 ?_)
 unfold Aez
 refine Lf hr ?_
 unfold ub
 rw [Au]
 exact Fu (by omega) (Agt hr hl _ (i + 1) (by omega) (by omega) hk)
theorem Ais {B : List UInt8} {i : Nat} : Un B i = match Wg (B.drop i) with
 | some k => Int.ofNat k
 | none => Int.negSucc 0 := by
 unfold Un Wg
 rw [show at0 (B.drop i) 0 = bt B i from It, show at0 (B.drop i) 1 = bt B (i + 1) from It, show at0 (B.drop i) 2 = bt B (i + 2) from It]
 by_cases a : bt B i = 34 ∨ bt B i = 39
 · rw [if_pos a, if_pos (by simpa using a)]
 · rw [if_neg a, if_neg (by simpa using a)]
   by_cases b : bt B i = 117 ∧ bt B (i + 1) = 56 ∧ bt B (i + 2) = 34
   · rw [if_pos b, if_pos (by simp [b])]
   · rw [if_neg b, if_neg (by simp only [Bool.and_eq_true, decide_eq_true_eq]; exact fun e => b ⟨e.1.1, e.1.2, e.2⟩)]
     by_cases d : (bt B i = 76 ∨ bt B i = 117 ∨ bt B i = 85) ∧ (bt B (i + 1) = 34 ∨ bt B (i + 1) = 39)
     · rw [if_pos d, if_pos (by simp only [Bool.and_eq_true, Bool.or_eq_true, decide_eq_true_eq]; exact ⟨by rcases d.1 with h | h | h <;> simp [h], d.2⟩)]
     · rw [if_neg d, if_neg (by simp only [Bool.and_eq_true, Bool.or_eq_true, decide_eq_true_eq]; exact fun e => d ⟨by rcases e.1 with (h | h) | h <;> simp [h], e.2⟩)]
theorem Atb {B : List UInt8} : ∀ (p : List UInt8) (i : Nat), (∀ x ∈ p, x ≠ 0) → pre B i p = p.isPrefixOf (B.drop i)
 | [], i, _ => by cases B.drop i <;> rfl
 | x :: p, i, hp => by
  have ih := Atb (B := B) p (i + 1) fun y hy => hp y (by simp [hy])
  show (decide (bt B i = x) && pre B (i + 1) p) = _
  rcases Nat.lt_or_ge i B.length with h | h
  · rw [drop_cons h, Vp h, ih]
    show _ = ((x == B[i]) && p.isPrefixOf (B.drop (i + 1)))
    congr 1
    rw [Bool.eq_iff_iff, decide_eq_true_eq, beq_iff_eq]
    exact ⟨Eq.symm, Eq.symm⟩
  · rw [Sm h, List.drop_eq_nil_of_le h, decide_eq_false (fun e => hp x (by simp) e.symm)]; rfl
theorem Xj {B : List UInt8} {i : Nat} : ∀ (l : List (List UInt8)), (∀ p ∈ l, ∀ x ∈ p, x ≠ 0) → Ta B i l = match l.find? (fun p => p.isPrefixOf (B.drop i)) with
    | some p => p.length
    | none => 0
  | [], _ => rfl
  | p :: l, h => by
    have ih := Xj (B := B) (i := i) l fun q hq => h q (by simp [hq])
    unfold Ta
    rw [Atb p i (h p (by simp)), List.find?_cons]
    cases p.isPrefixOf (B.drop i) with
    | true => rfl
    | false => rw [if_neg (by decide)]; exact ih
theorem Aqg {B : List UInt8} {i : Nat} : Ta B i Cr = Afu (B.drop i) := by
 rw [Xj Cr (by decide)]
 rfl
def nxV (_B : List UInt8) (i : Nat) (r : Nat × Nat × Bool) : AV := .tuple [.int .i64 (Int.ofNat r.1), .int .i64 (Int.ofNat (i + r.2.1)), .bool r.2.2]
theorem Av3 {h : H} {v : AV} {B : List UInt8} {i n : Nat} {k : KV} (hr : Rs h v B) (hl : B.length ≤ 1000000) (hi : i < B.length) (hn : B.length + 5 ≤ n) (hk : ∀ h', Exh h h' → k (nxV B i (Ov (B.drop i))) h') : (r80 W1 k n).a2 v (Int.ofNat i) h := by
 obtain ⟨n, rfl⟩ : ∃ m, n = m + 1 := ⟨n - 1, by omega⟩
 refine Bds ?_
 unfold Amu
 unfold Ov at hk
 rw [show at0 (B.drop i) 0 = bt B i from It, Aty] at hk
 refine Lf hr ?_
 unfold ub
 rw [Au]
 refine Dq (A86 _) ?_
 rw [Ce]
 by_cases a : Dx (bt B i) = true
 · rw [if_pos a] at hk
   refine Cg a (Fu (by omega) (Av4 hr hl n (i + 1) (by omega) hi ?_))
   have := hk h .refl
   unfold nxV at this
   unfold idV
   rw [List.drop_drop] at this
   have e : i + (1 + idL (B.drop (i + 1))) = i + 1 + idL (B.drop (i + 1)) := by omega
   simp only [e] at this
   exact this
 · rw [if_neg a] at hk
   refine Bp (by simpa using a) (A85 hr hl hi ?_)
   rw [Au, ilt]
   by_cases b : 0 < Ui (B.drop i)
   · rw [if_pos b] at hk
     exact Cg (decide_eq_true (by omega)) (hk h .refl)
   · rw [if_neg b] at hk
     refine Bp (decide_eq_false (by omega)) (Bmw hr (by omega) fun h' x => ?_)
     rw [Au, ilt, Aqg]
     by_cases d : 0 < Afu (B.drop i)
     · rw [if_pos d] at hk
       have := Go.Lx.An9 (B.drop i)
       rw [List.length_drop] at this
       exact Cg (decide_eq_true d) (Fu (by omega) (hk h' x))
     · rw [if_neg d] at hk
       exact Bp (decide_eq_false d) (Fu (by omega) (hk h' x))
theorem Bgl {h : H} {v : AV} {B : List UInt8} {i : Nat} {k : KV} (hr : Rs h v B) (hl : B.length ≤ 1000000) (hi : i < B.length) (hk : ∀ h', Exh h h' → k (nxV B i (Go.Lx.Gw (B.drop i))) h') : W1 (.func 80) [v, .int .i64 (Int.ofNat i)] h k := by
 refine w80 (n := B.length + 6 + 1) Bn (g80 ?_)
 unfold Amw
 refine A88 hr (by omega) ?_
 rw [Au, Ais]
 unfold Go.Lx.Gw at hk
 cases hL : Wg (B.drop i) with
 | none =>
  rw [hL] at hk
  exact Bp rfl (Av3 hr hl hi (by omega) hk)
 | some kk =>
  rw [hL] at hk
  simp only [] at hk ⊢
  have hq : bt B (i + kk) ≠ 0 := by
   have e0 : at0 (B.drop i) 0 = bt B i := It
   have e1 : at0 (B.drop i) 1 = bt B (i + 1) := It
   have e2 : at0 (B.drop i) 2 = bt B (i + 2) := It
   unfold Wg at hL
   rw [e0, e1, e2] at hL
   split at hL
   · rename_i h1
     cases hL
     rcases h1 with h1 | h1 <;> (rw [show i + 0 = i from rfl, h1]; decide)
   · split at hL
     · rename_i h1
       cases hL
       rw [h1.2.2]; decide
     · split at hL
       · rename_i h1
         cases hL
         rcases h1.2 with h1 | h1 <;> (rw [h1]; decide)
       · cases hL
  have hlt : i + kk < B.length := by
   rcases Nat.lt_or_ge (i + kk) B.length with h1 | h1
   · exact h1
   · exact absurd (Sm h1) hq
  rw [show at0 (B.drop i) kk = bt B (i + kk) from It, List.drop_drop] at hk
  refine Cg (by rw [ile]; exact decide_eq_true (Nat.zero_le _)) (Fu (by omega) (A87 hr hl hlt ?_))
  rw [Au]
  unfold Ss
  rw [show i + (kk + 1) = i + kk + 1 from rfl] at hk
  cases hQ : Gz (bt B (i + kk)) (B.drop (i + kk + 1)) with
  | some n =>
   rw [hQ] at hk
   simp only [] at hk ⊢
   have hqn := Go.Lx.Ya hQ
   rw [List.length_drop] at hqn
   have en : i + (kk + 1 + n) = i + kk + 1 + n := by omega
   rw [ilt, decide_eq_true (show 0 < i + kk + 1 + n by omega)]
   refine Li (b := decide (bt B (i + kk) = 34)) (fun k' hk' => Fu (by omega) (Lf hr ?_)) ?_
   · unfold ub
     rw [Au, Azv _ 34 (by decide)]; exact hk'
   · rw [Bool.true_and]
     by_cases e : bt B (i + kk) = 34
     · rw [if_pos e] at hk
       refine Cg (decide_eq_true e) ?_
       have := hk h .refl
       unfold nxV at this
       simp only [en] at this
       exact this
     · rw [if_neg e] at hk
       refine Bp (decide_eq_false e) (Cg rfl ?_)
       have := hk h .refl
       unfold nxV at this
       simp only [en] at this
       exact this
  | none =>
   rw [hQ] at hk
   simp only [] at hk ⊢
   rw [ilt, decide_eq_false (show ¬ 0 < 0 by omega)]
   refine Gu (fun e => nomatch e) (fun _ => Bp rfl (Bp rfl ?_))
   rw [Ko]
   by_cases e : kk = 0
   · rw [if_pos e] at hk
     exact Cg (decide_eq_true e) (Fu (by omega) (hk h .refl))
   · rw [if_neg e] at hk
     exact Bp (decide_eq_false e) (Av3 hr hl hi (by omega) hk)
end Go.Den
