/-
  A part of the proof.
-/
namespace Go.Lx
abbrev B8 := List UInt8
def Co (x : UInt8) : Bool := (decide (97 ≤ x.toNat) && decide (x.toNat ≤ 122)) || (decide (65 ≤ x.toNat) && decide (x.toNat ≤ 90)) || decide (x.toNat = 95)
def isDigit (x : UInt8) : Bool := decide (48 ≤ x.toNat) && decide (x.toNat ≤ 57)
def Er (x : UInt8) : Bool := decide (x.toNat = 32) || decide (x.toNat = 9) || (decide (11 ≤ x.toNat) && decide (x.toNat ≤ 13))
def at0 (s : B8) (i : Nat) : UInt8 := s.getD i 0
def Aaj (s : B8) : Option Nat :=
  if at0 s 0 = 34 ∨ at0 s 0 = 39 then some 0
  else if at0 s 0 = 117 ∧ at0 s 1 = 56 ∧ at0 s 2 = 34 then some 2
  else if (at0 s 0 = 76 ∨ at0 s 0 = 117 ∨ at0 s 0 = 85) ∧ (at0 s 1 = 34 ∨ at0 s 1 = 39) then some 1
  else none
def Jq (q : UInt8) : B8 → Option Nat
  | [] => none
  | [x] => if x = 10 then none else if x = q then some 1 else none
  | x :: y :: r => if x = 10 then none
    else if x = 92 ∧ y ≠ 10 then (Jq q r).map (· + 2)
    else if x = q then some 1
    else (Jq q (y :: r)).map (· + 1)
def Ht : B8 → Nat
  | [] => 0
  | [x] => if Co x || isDigit x || x == 46 then 1 else 0
  | x :: y :: r => if (x = 101 ∨ x = 69 ∨ x = 112 ∨ x = 80) ∧ (y = 43 ∨ y = 45) then 2 + Ht r
    else if Co x || isDigit x || x == 46 then 1 + Ht (y :: r) else 0
def Pd (s : B8) : Nat := if isDigit (at0 s 0) || (at0 s 0 == 46 && isDigit (at0 s 1)) then 1 + Ht (s.drop 1) else 0
def idL (s : B8) : Nat := (s.takeWhile fun x => Co x || isDigit x).length
def Ch : List B8 := [[37, 58, 37, 58], [46, 46, 46], [60, 60, 61], [62, 62, 61], [45, 62], [43, 43], [45, 45], [60, 60], [62, 62], [60, 61], [62, 61], [61, 61], [33, 61], [38, 38], [124, 124], [42, 61], [47, 61], [37, 61], [43, 61], [45, 61], [38, 61], [94, 61], [124, 61], [35, 35], [60, 58], [58, 62], [60, 37], [37, 62], [37, 58],
  [91], [93], [40], [41], [123], [125], [46], [38], [42], [43], [45], [126], [33], [47], [37], [60], [62], [94], [124], [63], [58], [59], [61], [44], [35]]
def Ady (s : B8) : Nat := match Ch.find? (fun p => p.isPrefixOf s) with
  | some p => p.length
  | none => 0
def Pg (s : B8) : Nat × Nat × Bool :=
  if Co (at0 s 0) then (1, 1 + idL (s.drop 1), false)
  else if 0 < Pd s then (2, Pd s, false)
  else if 0 < Ady s then (5, Ady s, false)
  else (6, 1, false)
def Gc (s : B8) : Nat × Nat × Bool := match Aaj s with
  | some k => match Jq (at0 s k) (s.drop (k + 1)) with
    | some n => (if at0 s k = 34 then 4 else 3, k + 1 + n, false)
    | none => if k = 0 then (6, 1, true) else Pg s
  | none => Pg s
def Sr : B8 → Option Nat
  | [] => none
  | [_] => none
  | x :: y :: r => if x = 42 ∧ y = 47 then some 2 else (Sr (y :: r)).map (· + 1)
def Pw (s : B8) : Option (Nat × Bool) :=
  if at0 s 0 ≠ 47 then none
  else if at0 s 1 = 47 then some ((s.takeWhile (· ≠ 10)).length, false)
  else if at0 s 1 ≠ 42 then none
  else match Sr (s.drop 2) with
    | some n => some (n + 2, false)
    | none => some (s.length, true)
theorem Wn {q : UInt8} : ∀ {s : B8} {n : Nat}, Jq q s = some n → 0 < n ∧ n ≤ s.length
  | [], n, h => by simp [Jq] at h
  | [x], n, h => by
    unfold Jq at h
    split at h
    · cases h
    · split at h
      · cases h; simp
      · cases h
  | x :: y :: r, n, h => by
    unfold Jq at h
    split at h
    · cases h
    · split at h
      · cases e : Jq q r with
        | none => rw [e] at h; cases h
        | some m =>
          rw [e] at h; cases h
          have := Wn e
          simp only [List.length_cons]; omega
      · split at h
        · cases h; simp
        · cases e : Jq q (y :: r) with
          | none => rw [e] at h; cases h
          | some m =>
            rw [e] at h; cases h
            have := Wn e
            simp only [List.length_cons] at this ⊢; omega
theorem Ad3 : ∀ s : B8, Ht s ≤ s.length
  | [] => Nat.le_refl _
  | [x] => by unfold Ht; split <;> simp
  | x :: y :: r => by
    have h1 := Ad3 r
    have h2 := Ad3 (y :: r)
    unfold Ht
    simp only [List.length_cons] at h2 ⊢
    split
    · omega
    · split <;> omega
theorem A3q (s : B8) : idL s ≤ s.length := by
  unfold idL
  induction s with
  | nil => exact Nat.le_refl _
  | cons x s ih =>
    rw [List.takeWhile_cons]
    split
    · simp only [List.length_cons]; omega
    · simp
theorem Alm (s : B8) : Ady s ≤ s.length := by
  unfold Ady
  split
  · rename_i p h
    have := List.find?_some h
    obtain ⟨t, e⟩ := List.isPrefixOf_iff_prefix.1 this
    rw [← e, List.length_append]; omega
  · exact Nat.zero_le _
theorem Agm {s : B8} (h : s ≠ []) : 0 < (Pg s).2.1 ∧ (Pg s).2.1 ≤ s.length := by
  have hl : 0 < s.length := List.length_pos_iff.2 h
  have hd : (s.drop 1).length = s.length - 1 := by simp
  unfold Pg
  split
  · have := A3q (s.drop 1)
    simp only []; omega
  · split
    · rename_i h1
      refine ⟨h1, ?_⟩
      simp only [] at h1 ⊢
      unfold Pd at h1 ⊢
      split
      · have := Ad3 (s.drop 1); omega
      · exact Nat.zero_le _
    · split
      · rename_i h1; exact ⟨h1, Alm s⟩
      · simp only []; omega
theorem Aqt {s : B8} (h : s ≠ []) : 0 < (Gc s).2.1 ∧ (Gc s).2.1 ≤ s.length := by
  have hl : 0 < s.length := List.length_pos_iff.2 h
  unfold Gc
  split
  · rename_i k hk
    split
    · rename_i n hn
      have := Wn hn
      have hd : (s.drop (k + 1)).length = s.length - (k + 1) := by simp
      simp only []; omega
    · split
      · simp only []; omega
      · exact Agm h
  · exact Agm h
end Go.Lx
namespace Go.Lx
abbrev Rn := UInt8 × Nat × Nat
def bts (l : List Rn) : B8 := l.map (·.1)
def Uw : B8 := [61, 47, 39, 40, 41, 33, 60, 62, 45]
def Ab3 : B8 := [35, 92, 94, 91, 93, 124, 123, 125, 126]
def tri (c : UInt8) : Option UInt8 := (Uw.zip Ab3).find? (fun p => p.1 == c) |>.map (·.2)
def Cr : Nat → B8 → List Rn
  | _, [] => []
  | i, [a] => [(a, i, i + 1)]
  | i, [a, b] => [(a, i, i + 1), (b, i + 1, i + 2)]
  | i, a :: b :: c :: r => if a = 63 ∧ b = 63 then (match tri c with
      | some d => (d, i, i + 3) :: Cr (i + 3) r
      | none => (a, i, i + 1) :: Cr (i + 1) (b :: c :: r))
    else (a, i, i + 1) :: Cr (i + 1) (b :: c :: r)
def Hs : List Rn → List Rn
  | [] => []
  | [x] => [x]
  | x :: y :: r => if x.1 = 92 ∧ y.1 = 10 then Hs r else x :: Hs (y :: r)
def Ga (s : B8) : List Rn :=
  if s ≠ [] ∧ ((Hs (Cr 0 s)).getLast?.map (·.1)) ≠ some 10 then Hs (Cr 0 s) ++ [(10, s.length, s.length)] else Hs (Cr 0 s)
def Tl : Nat → B8 → Bool → List (Nat × B8 × Bool)
  | 0, _, _ => []
  | _ + 1, [], _ => []
  | k + 1, x :: s, sp =>
    if x = 10 then []
    else if Er x then Tl k s true
    else match Pw (x :: s) with
      | some (_, true) => []
      | some (j, false) => Tl k ((x :: s).drop j) true
      | none => ((Gc (x :: s)).1, (x :: s).take (Gc (x :: s)).2.1, sp) :: Tl k ((x :: s).drop (Gc (x :: s)).2.1) false
def Aqq (x : UInt8) : Bool := (Co x || isDigit x || x == 46) && !(x == 101 || x == 69 || x == 112 || x == 80)
def Rl (x : UInt8) : Bool := !(Co x || isDigit x || x == 46)
theorem Aba : ∀ (w : B8) (c : UInt8) (r : B8), (∀ x ∈ w, Aqq x = true) → Rl c = true → Ht (w ++ c :: r) = w.length
  | [], c, r, _, hc => by
    have h1 : (Co c || isDigit c || c == 46) = false := by simpa [Rl] using hc
    have h2 : ¬ (c = 101 ∨ c = 69 ∨ c = 112 ∨ c = 80) := by
      rintro (rfl | rfl | rfl | rfl) <;> exact absurd h1 (by decide)
    cases r with
    | nil => simp [Ht, h1]
    | cons y r => simp [Ht, h1, h2]
  | x :: w, c, r, hw, hc => by
    have hx := hw x (by simp)
    have ih := Aba w c r (fun y hy => hw y (by simp [hy])) hc
    simp only [Aqq, Bool.and_eq_true, Bool.not_eq_true', Bool.or_eq_false_iff, beq_eq_false_iff_ne] at hx
    obtain ⟨h1, ⟨⟨h2, h3⟩, h4⟩, h5⟩ := hx
    have hn : ∀ y : UInt8, ¬ ((x = 101 ∨ x = 69 ∨ x = 112 ∨ x = 80) ∧ (y = 43 ∨ y = 45)) := fun y h => by
      rcases h.1 with h | h | h | h <;> contradiction
    cases w with
    | nil =>
      show Ht (x :: c :: r) = 1
      unfold Ht
      rw [if_neg (hn c), if_pos h1]
      have : Ht (c :: r) = 0 := ih
      rw [this]
    | cons y w =>
      show Ht (x :: y :: (w ++ c :: r)) = w.length + 1 + 1
      unfold Ht
      rw [if_neg (hn y), if_pos h1]
      have : Ht (y :: (w ++ c :: r)) = w.length + 1 := ih
      rw [this]; omega
end Go.Lx
namespace Go.Lx
def rnF : Nat → B8 → List Rn
  | _, [] => []
  | i, x :: s => (x, i, i + 1) :: rnF (i + 1) s
theorem Amt : ∀ (s : B8) (i : Nat), bts (rnF i s) = s
  | [], _ => rfl
  | x :: s, i => by show x :: bts (rnF (i + 1) s) = _; rw [Amt s (i + 1)]
def Hu : B8 → Bool
  | a :: b :: r => !(a == 63 && b == 63) && Hu (b :: r)
  | _ => true
theorem Aa6 : ∀ (s : B8) (i : Nat), Hu s = true → Cr i s = rnF i s
  | [], _, _ => rfl
  | [_], _, _ => rfl
  | [_, _], _, _ => rfl
  | a :: b :: c :: r, i, h => by
    have h : (!(a == 63 && b == 63) && Hu (b :: c :: r)) = true := h
    simp only [Bool.and_eq_true, Bool.not_eq_true', Bool.and_eq_false_iff, beq_eq_false_iff_ne] at h
    have hn : ¬ (a = 63 ∧ b = 63) := fun e => h.1.elim (fun h1 => h1 e.1) (fun h1 => h1 e.2)
    unfold Cr
    rw [if_neg hn, Aa6 (b :: c :: r) (i + 1) h.2]
    rfl
theorem Akk : ∀ l : List Rn, (∀ x ∈ l, x.1 ≠ 10) → Hs l = l
  | [], _ => rfl
  | [_], _ => rfl
  | x :: y :: r, h => by
    unfold Hs
    rw [if_neg (fun e => h y (by simp) e.2), Akk (y :: r) fun z hz => h z (by simp only [List.mem_cons] at hz ⊢; exact .inr hz)]
theorem Af7 {s : B8} (h : ∀ x ∈ s, x ≠ 10) : ∀ i, ∀ x ∈ rnF i s, x.1 ≠ 10 := by
  induction s with
  | nil => intro i x hx; cases hx
  | cons a s ih =>
    intro i x hx
    rcases List.mem_cons.1 hx with rfl | hx
    · exact h a (by simp)
    · exact ih (fun y hy => h y (by simp [hy])) _ _ hx
theorem Ahv {s : B8} (h0 : s ≠ []) (h10 : ∀ x ∈ s, x ≠ 10) (hq : Hu s = true) : Ga s = rnF 0 s ++ [(10, s.length, s.length)] := by
  unfold Ga
  rw [Aa6 s 0 hq, Akk _ (Af7 h10 0), if_pos]
  refine ⟨h0, fun e => ?_⟩
  cases hl : (rnF 0 s).getLast? with
  | none => rw [hl] at e; cases e
  | some x =>
    rw [hl] at e
    have : x.1 = 10 := by simpa using e
    exact Af7 h10 0 x (List.mem_of_getLast? hl) this
end Go.Lx
