/-
 A part of the proof.
-/
namespace Go.Lx
abbrev B8 := List UInt8
def Bd (x : UInt8) : Bool := (decide (97 ≤ x.toNat) && decide (x.toNat ≤ 122)) || (decide (65 ≤ x.toNat) && decide (x.toNat ≤ 90)) || decide (x.toNat = 95)
def isDigit (x : UInt8) : Bool := decide (48 ≤ x.toNat) && decide (x.toNat ≤ 57)
def Fg (x : UInt8) : Bool := decide (x.toNat = 32) || decide (x.toNat = 9) || (decide (11 ≤ x.toNat) && decide (x.toNat ≤ 13))
def at0 (s : B8) (i : Nat) : UInt8 := s.getD i 0
def Afq (s : B8) : Option Nat :=
 if at0 s 0 = 34 ∨ at0 s 0 = 39 then some 0
 else if at0 s 0 = 117 ∧ at0 s 1 = 56 ∧ at0 s 2 = 34 then some 2
 else if (at0 s 0 = 76 ∨ at0 s 0 = 117 ∨ at0 s 0 = 85) ∧ (at0 s 1 = 34 ∨ at0 s 1 = 39) then some 1
 else none
def Jt (q : UInt8) : B8 → Option Nat
 | [] => none
 | [x] => if x = 10 then none else if x = q then some 1 else none
 | x :: y :: r => if x = 10 then none
  else if x = 92 ∧ y ≠ 10 then (Jt q r).map (· + 2)
  else if x = q then some 1
  else (Jt q (y :: r)).map (· + 1)
def Nh : B8 → Nat
 | [] => 0
 | [x] => if Bd x || isDigit x || x == 46 then 1 else 0
 | x :: y :: r => if (x = 101 ∨ x = 69 ∨ x = 112 ∨ x = 80) ∧ (y = 43 ∨ y = 45) then 2 + Nh r
  else if Bd x || isDigit x || x == 46 then 1 + Nh (y :: r) else 0
def Wv (s : B8) : Nat := if isDigit (at0 s 0) || (at0 s 0 == 46 && isDigit (at0 s 1)) then 1 + Nh (s.drop 1) else 0
def idL (s : B8) : Nat := (s.takeWhile fun x => Bd x || isDigit x).length
def Ck : List B8 := [[37, 58, 37, 58], [46, 46, 46], [60, 60, 61], [62, 62, 61], [45, 62], [43, 43], [45, 45], [60, 60], [62, 62], [60, 61], [62, 61], [61, 61], [33, 61], [38, 38], [124, 124], [42, 61], [47, 61], [37, 61], [43, 61], [45, 61], [38, 61], [94, 61], [124, 61], [35, 35], [60, 58], [58, 62], [60, 37], [37, 62], [37, 58],
 [91], [93], [40], [41], [123], [125], [46], [38], [42], [43], [45], [126], [33], [47], [37], [60], [62], [94], [124], [63], [58], [59], [61], [44], [35]]
def Ahx (s : B8) : Nat := match Ck.find? (fun p => p.isPrefixOf s) with
 | some p => p.length
 | none => 0
def Ry (s : B8) : Nat × Nat × Bool :=
 if Bd (at0 s 0) then (1, 1 + idL (s.drop 1), false)
 else if 0 < Wv s then (2, Wv s, false)
 else if 0 < Ahx s then (5, Ahx s, false)
 else (6, 1, false)
def Fv (s : B8) : Nat × Nat × Bool := match Afq s with
 | some k => match Jt (at0 s k) (s.drop (k + 1)) with
  | some n => (if at0 s k = 34 then 4 else 3, k + 1 + n, false)
  | none => if k = 0 then (6, 1, true) else Ry s
 | none => Ry s
def Td : B8 → Option Nat
 | [] => none
 | [_] => none
 | x :: y :: r => if x = 42 ∧ y = 47 then some 2 else (Td (y :: r)).map (· + 1)
def Rp (s : B8) : Option (Nat × Bool) :=
 if at0 s 0 ≠ 47 then none
 else if at0 s 1 = 47 then some ((s.takeWhile (· ≠ 10)).length, false)
 else if at0 s 1 ≠ 42 then none
 else match Td (s.drop 2) with
  | some n => some (n + 2, false)
  | none => some (s.length, true)
theorem Xr {q : UInt8} : ∀ {s : B8} {n : Nat}, Jt q s = some n → 0 < n ∧ n ≤ s.length
 | [], n, h => by simp [Jt] at h
 | [x], n, h => by
  unfold Jt at h
  split at h
  · cases h
  · split at h
    · cases h; simp
    · cases h
 | x :: y :: r, n, h => by
  unfold Jt at h
  split at h
  · cases h
  · split at h
    · cases e : Jt q r with
      | none => rw [e] at h; cases h
      | some m =>
       rw [e] at h; cases h
       have := Xr e
       simp only [List.length_cons]; omega
    · split at h
      · cases h; simp
      · cases e : Jt q (y :: r) with
        | none => rw [e] at h; cases h
        | some m =>
         rw [e] at h; cases h
         have := Xr e
         simp only [List.length_cons] at this ⊢; omega
theorem Afn : ∀ s : B8, Nh s ≤ s.length
 | [] => Nat.le_refl _
 | [x] => by unfold Nh; split <;> simp
 | x :: y :: r => by
  have h1 := Afn r
  have h2 := Afn (y :: r)
  unfold Nh
  simp only [List.length_cons] at h2 ⊢
  split
  · omega
  · split <;> omega
theorem A4w (s : B8) : idL s ≤ s.length := by
 unfold idL
 induction s with
 | nil => exact Nat.le_refl _
 | cons x s ih =>
  rw [List.takeWhile_cons]
  split
  · simp only [List.length_cons]; omega
  · simp
theorem Anq (s : B8) : Ahx s ≤ s.length := by
 unfold Ahx
 split
 · rename_i p h
   have := List.find?_some h
   obtain ⟨t, e⟩ := List.isPrefixOf_iff_prefix.1 this
   rw [← e, List.length_append]; omega
 · exact Nat.zero_le _
theorem Ah3 {s : B8} (h : s ≠ []) : 0 < (Ry s).2.1 ∧ (Ry s).2.1 ≤ s.length := by
 have hl : 0 < s.length := List.length_pos_iff.2 h
 have hd : (s.drop 1).length = s.length - 1 := by simp
 unfold Ry
 split
 · have := A4w (s.drop 1)
   simp only []; omega
 · split
   · rename_i h1
     refine ⟨h1, ?_⟩
     simp only [] at h1 ⊢
     unfold Wv at h1 ⊢
     split
     · have := Afn (s.drop 1); omega
     · exact Nat.zero_le _
   · split
     · rename_i h1; exact ⟨h1, Anq s⟩
     · simp only []; omega
theorem Atd {s : B8} (h : s ≠ []) : 0 < (Fv s).2.1 ∧ (Fv s).2.1 ≤ s.length := by
 have hl : 0 < s.length := List.length_pos_iff.2 h
 unfold Fv
 split
 · rename_i k hk
   split
   · rename_i n hn
     have := Xr hn
     have hd : (s.drop (k + 1)).length = s.length - (k + 1) := by simp
     simp only []; omega
   · split
     · simp only []; omega
     · exact Ah3 h
 · exact Ah3 h
end Go.Lx
