/-
 Proof.
-/
namespace Go.Lx
abbrev B8 := List UInt8
def Cs (x : UInt8) : Bool := (decide (97 ≤ x.toNat) && decide (x.toNat ≤ 122)) || (decide (65 ≤ x.toNat) && decide (x.toNat ≤ 90)) || decide (x.toNat = 95)
def isDigit (x : UInt8) : Bool := decide (48 ≤ x.toNat) && decide (x.toNat ≤ 57)
def Fl (x : UInt8) : Bool := decide (x.toNat = 32) || decide (x.toNat = 9) || (decide (11 ≤ x.toNat) && decide (x.toNat ≤ 13))
def at0 (s : B8) (i : Nat) : UInt8 := s.getD i 0
def Aae (s : B8) : Option Nat :=
 if at0 s 0 = 34 ∨ at0 s 0 = 39 then some 0
 else if at0 s 0 = 117 ∧ at0 s 1 = 56 ∧ at0 s 2 = 34 then some 2
 else if (at0 s 0 = 76 ∨ at0 s 0 = 117 ∨ at0 s 0 = 85) ∧ (at0 s 1 = 34 ∨ at0 s 1 = 39) then some 1
 else none
def Ke (q : UInt8) : B8 → Option Nat
 | [] => none
 | [x] => if x = 10 then none else if x = q then some 1 else none
 | x :: y :: r => if x = 10 then none
  else if x = 92 ∧ y ≠ 10 then (Ke q r).map (· + 2)
  else if x = q then some 1
  else (Ke q (y :: r)).map (· + 1)
def Gz : B8 → Nat
 | [] => 0
 | [x] => if Cs x || isDigit x || x == 46 then 1 else 0
 | x :: y :: r => if (x = 101 ∨ x = 69 ∨ x = 112 ∨ x = 80) ∧ (y = 43 ∨ y = 45) then 2 + Gz r
  else if Cs x || isDigit x || x == 46 then 1 + Gz (y :: r) else 0
def Lp (s : B8) : Nat := if isDigit (at0 s 0) || (at0 s 0 == 46 && isDigit (at0 s 1)) then 1 + Gz (s.drop 1) else 0
def idL (s : B8) : Nat := (s.takeWhile fun x => Cs x || isDigit x).length
def Cp : List B8 := [[37, 58, 37, 58], [46, 46, 46], [60, 60, 61], [62, 62, 61], [45, 62], [43, 43], [45, 45], [60, 60], [62, 62], [60, 61], [62, 61], [61, 61], [33, 61], [38, 38], [124, 124], [42, 61], [47, 61], [37, 61], [43, 61], [45, 61], [38, 61], [94, 61], [124, 61], [35, 35], [60, 58], [58, 62], [60, 37], [37, 62], [37, 58],
 [91], [93], [40], [41], [123], [125], [46], [38], [42], [43], [45], [126], [33], [47], [37], [60], [62], [94], [124], [63], [58], [59], [61], [44], [35]]
def Afr (s : B8) : Nat := match Cp.find? (fun p => p.isPrefixOf s) with
 | some p => p.length
 | none => 0
def Mm (s : B8) : Nat × Nat × Bool :=
 if Cs (at0 s 0) then (1, 1 + idL (s.drop 1), false)
 else if 0 < Lp s then (2, Lp s, false)
 else if 0 < Afr s then (5, Afr s, false)
 else (6, 1, false)
def Gw (s : B8) : Nat × Nat × Bool := match Aae s with
 | some k => match Ke (at0 s k) (s.drop (k + 1)) with
  | some n => (if at0 s k = 34 then 4 else 3, k + 1 + n, false)
  | none => if k = 0 then (6, 1, true) else Mm s
 | none => Mm s
def Tn : B8 → Option Nat
 | [] => none
 | [_] => none
 | x :: y :: r => if x = 42 ∧ y = 47 then some 2 else (Tn (y :: r)).map (· + 1)
def Qp (s : B8) : Option (Nat × Bool) :=
 if at0 s 0 ≠ 47 then none
 else if at0 s 1 = 47 then some ((s.takeWhile (· ≠ 10)).length, false)
 else if at0 s 1 ≠ 42 then none
 else match Tn (s.drop 2) with
  | some n => some (n + 2, false)
  | none => some (s.length, true)
theorem Xw {q : UInt8} : ∀ {s : B8} {n : Nat}, Ke q s = some n → 0 < n ∧ n ≤ s.length
 | [], n, h => by simp [Ke] at h
 | [x], n, h => by
  unfold Ke at h
  split at h
  · cases h
  · split at h
    · cases h; simp
    · cases h
 | x :: y :: r, n, h => by
  unfold Ke at h
  split at h
  · cases h
  · split at h
    · cases e : Ke q r with
      | none => rw [e] at h; cases h
      | some m =>
       rw [e] at h; cases h
       have := Xw e
       simp only [List.length_cons]; omega
    · split at h
      · cases h; simp
      · cases e : Ke q (y :: r) with
        | none => rw [e] at h; cases h
        | some m =>
         rw [e] at h; cases h
         have := Xw e
         simp only [List.length_cons] at this ⊢; omega
theorem Afx : ∀ s : B8, Gz s ≤ s.length
 | [] => Nat.le_refl _
 | [x] => by unfold Gz; split <;> simp
 | x :: y :: r => by
  have h1 := Afx r
  have h2 := Afx (y :: r)
  unfold Gz
  simp only [List.length_cons] at h2 ⊢
  split
  · omega
  · split <;> omega
theorem A5k (s : B8) : idL s ≤ s.length := by
 unfold idL
 induction s with
 | nil => exact Nat.le_refl _
 | cons x s ih =>
  rw [List.takeWhile_cons]
  split
  · simp only [List.length_cons]; omega
  · simp
theorem An3 (s : B8) : Afr s ≤ s.length := by
 unfold Afr
 split
 · rename_i p h
   have := List.find?_some h
   obtain ⟨t, e⟩ := List.isPrefixOf_iff_prefix.1 this
   rw [← e, List.length_append]; omega
 · exact Nat.zero_le _
theorem Aic {s : B8} (h : s ≠ []) : 0 < (Mm s).2.1 ∧ (Mm s).2.1 ≤ s.length := by
 have hl : 0 < s.length := List.length_pos_iff.2 h
 have hd : (s.drop 1).length = s.length - 1 := by simp
 unfold Mm
 split
 · have := A5k (s.drop 1)
   simp only []; omega
 · split
   · rename_i h1
     refine ⟨h1, ?_⟩
     simp only [] at h1 ⊢
     unfold Lp at h1 ⊢
     split
     · have := Afx (s.drop 1); omega
     · exact Nat.zero_le _
   · split
     · rename_i h1; exact ⟨h1, An3 s⟩
     · simp only []; omega
theorem Atm {s : B8} (h : s ≠ []) : 0 < (Gw s).2.1 ∧ (Gw s).2.1 ≤ s.length := by
 have hl : 0 < s.length := List.length_pos_iff.2 h
 unfold Gw
 split
 · rename_i k hk
   split
   · rename_i n hn
     have := Xw hn
     have hd : (s.drop (k + 1)).length = s.length - (k + 1) := by simp
     simp only []; omega
   · split
     · simp only []; omega
     · exact Aic h
 · exact Aic h
end Go.Lx
namespace Go.Lx
abbrev Rn := UInt8 × Nat × Nat
def bts (l : List Rn) : B8 := l.map (·.1)
def Vx : B8 := [61, 47, 39, 40, 41, 33, 60, 62, 45]
def Adh : B8 := [35, 92, 94, 91, 93, 124, 123, 125, 126]
def tri (c : UInt8) : Option UInt8 := (Vx.zip Adh).find? (fun p => p.1 == c) |>.map (·.2)
def Dc : Nat → B8 → List Rn
  | _, [] => []
  | i, [a] => [(a, i, i + 1)]
  | i, [a, b] => [(a, i, i + 1), (b, i + 1, i + 2)]
  | i, a :: b :: c :: r => if a = 63 ∧ b = 63 then (match tri c with
      | some d => (d, i, i + 3) :: Dc (i + 3) r
      | none => (a, i, i + 1) :: Dc (i + 1) (b :: c :: r))
    else (a, i, i + 1) :: Dc (i + 1) (b :: c :: r)
def Ih : List Rn → List Rn
 | [] => []
 | [x] => [x]
 | x :: y :: r => if x.1 = 92 ∧ y.1 = 10 then Ih r else x :: Ih (y :: r)
def Ez (s : B8) : List Rn :=
 if s ≠ [] ∧ ((Ih (Dc 0 s)).getLast?.map (·.1)) ≠ some 10 then Ih (Dc 0 s) ++ [(10, s.length, s.length)] else Ih (Dc 0 s)
def Sw : Nat → B8 → Bool → List (Nat × B8 × Bool)
 | 0, _, _ => []
 | _ + 1, [], _ => []
 | k + 1, x :: s, sp =>
  if x = 10 then []
  else if Fl x then Sw k s true
  else match Qp (x :: s) with
   | some (_, true) => []
   | some (j, false) => Sw k ((x :: s).drop j) true
   | none => ((Gw (x :: s)).1, (x :: s).take (Gw (x :: s)).2.1, sp) :: Sw k ((x :: s).drop (Gw (x :: s)).2.1) false
def Apy (x : UInt8) : Bool := (Cs x || isDigit x || x == 46) && !(x == 101 || x == 69 || x == 112 || x == 80)
def Ab6 (x : UInt8) : Bool := !(Cs x || isDigit x || x == 46)
theorem Acl : ∀ (w : B8) (c : UInt8) (r : B8), (∀ x ∈ w, Apy x = true) → Ab6 c = true → Gz (w ++ c :: r) = w.length
 | [], c, r, _, hc => by
  have h1 : (Cs c || isDigit c || c == 46) = false := by simpa [Ab6] using hc
  have h2 : ¬ (c = 101 ∨ c = 69 ∨ c = 112 ∨ c = 80) := by
   rintro (rfl | rfl | rfl | rfl) <;> exact absurd h1 (by decide)
  cases r with
  | nil => simp [Gz, h1]
  | cons y r => simp [Gz, h1, h2]
 | x :: w, c, r, hw, hc => by
  have hx := hw x (by simp)
  have ih := Acl w c r (fun y hy => hw y (by simp [hy])) hc
  simp only [Apy, Bool.and_eq_true, Bool.not_eq_true', Bool.or_eq_false_iff, beq_eq_false_iff_ne] at hx
  obtain ⟨h1, ⟨⟨h2, h3⟩, h4⟩, h5⟩ := hx
  have hn : ∀ y : UInt8, ¬ ((x = 101 ∨ x = 69 ∨ x = 112 ∨ x = 80) ∧ (y = 43 ∨ y = 45)) := fun y h => by
   rcases h.1 with h | h | h | h <;> contradiction
  cases w with
  | nil =>
   show Gz (x :: c :: r) = 1
   unfold Gz
   rw [if_neg (hn c), if_pos h1]
   have : Gz (c :: r) = 0 := ih
   rw [this]
  | cons y w =>
   show Gz (x :: y :: (w ++ c :: r)) = w.length + 1 + 1
   unfold Gz
   rw [if_neg (hn y), if_pos h1]
   have : Gz (y :: (w ++ c :: r)) = w.length + 1 := ih
   rw [this]; omega
end Go.Lx
namespace Go.Lx
def rnF : Nat → B8 → List Rn
 | _, [] => []
 | i, x :: s => (x, i, i + 1) :: rnF (i + 1) s
theorem Ao2 : ∀ (s : B8) (i : Nat), bts (rnF i s) = s
 | [], _ => rfl
 | x :: s, i => by show x :: bts (rnF (i + 1) s) = _; rw [Ao2 s (i + 1)]
def Ap0 : B8 → Bool
 | a :: b :: r => !(a == 63 && b == 63) && Ap0 (b :: r)
 | _ => true
theorem Ach : ∀ (s : B8) (i : Nat), Ap0 s = true → Dc i s = rnF i s
 | [], _, _ => rfl
 | [_], _, _ => rfl
 | [_, _], _, _ => rfl
 | a :: b :: c :: r, i, h => by
  have h : (!(a == 63 && b == 63) && Ap0 (b :: c :: r)) = true := h
  simp only [Bool.and_eq_true, Bool.not_eq_true', Bool.and_eq_false_iff, beq_eq_false_iff_ne] at h
  have hn : ¬ (a = 63 ∧ b = 63) := fun e => h.1.elim (fun h1 => h1 e.1) (fun h1 => h1 e.2)
  unfold Dc
  rw [if_neg hn, Ach (b :: c :: r) (i + 1) h.2]
  rfl
theorem Amp : ∀ l : List Rn, (∀ x ∈ l, x.1 ≠ 10) → Ih l = l
 | [], _ => rfl
 | [_], _ => rfl
 | x :: y :: r, h => by
  unfold Ih
  rw [if_neg (fun e => h y (by simp) e.2), Amp (y :: r) fun z hz => h z (by simp only [List.mem_cons] at hz ⊢; exact .inr hz)]
theorem Ahx {s : B8} (h : ∀ x ∈ s, x ≠ 10) : ∀ i, ∀ x ∈ rnF i s, x.1 ≠ 10 := by
 induction s with
 | nil => intro i x hx; cases hx
 | cons a s ih =>
  intro i x hx
  rcases List.mem_cons.1 hx with rfl | hx
  · exact h a (by simp)
  · exact ih (fun y hy => h y (by simp [hy])) _ _ hx
theorem Ajo {s : B8} (h0 : s ≠ []) (h10 : ∀ x ∈ s, x ≠ 10) (hq : Ap0 s = true) : Ez s = rnF 0 s ++ [(10, s.length, s.length)] := by
 unfold Ez
 rw [Ach s 0 hq, Amp _ (Ahx h10 0), if_pos]
 refine ⟨h0, fun e => ?_⟩
 cases hl : (rnF 0 s).getLast? with
 | none => rw [hl] at e; cases e
 | some x =>
  rw [hl] at e
  have : x.1 = 10 := by simpa using e
  exact Ahx h10 0 x (List.mem_of_getLast? hl) this
end Go.Lx
