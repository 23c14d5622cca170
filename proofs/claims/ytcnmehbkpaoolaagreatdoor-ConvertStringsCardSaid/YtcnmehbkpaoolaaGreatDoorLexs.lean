/-
 Part of the proof.
-/
namespace Go.Lx
abbrev B8 := List UInt8
def Dx (x : UInt8) : Bool := (decide (97 ≤ x.toNat) && decide (x.toNat ≤ 122)) || (decide (65 ≤ x.toNat) && decide (x.toNat ≤ 90)) || decide (x.toNat = 95)
def isDigit (x : UInt8) : Bool := decide (48 ≤ x.toNat) && decide (x.toNat ≤ 57)
def Gr (x : UInt8) : Bool := decide (x.toNat = 32) || decide (x.toNat = 9) || (decide (11 ≤ x.toNat) && decide (x.toNat ≤ 13))
def at0 (s : B8) (i : Nat) : UInt8 := s.getD i 0
def Wg (s : B8) : Option Nat :=
 if at0 s 0 = 34 ∨ at0 s 0 = 39 then some 0
 else if at0 s 0 = 117 ∧ at0 s 1 = 56 ∧ at0 s 2 = 34 then some 2
 else if (at0 s 0 = 76 ∨ at0 s 0 = 117 ∨ at0 s 0 = 85) ∧ (at0 s 1 = 34 ∨ at0 s 1 = 39) then some 1
 else none
def Gz (q : UInt8) : B8 → Option Nat
 | [] => none
 | [x] => if x = 10 then none else if x = q then some 1 else none
 | x :: y :: r => if x = 10 then none
  else if x = 92 ∧ y ≠ 10 then (Gz q r).map (· + 2)
  else if x = q then some 1
  else (Gz q (y :: r)).map (· + 1)
def Mb : B8 → Nat
 | [] => 0
 | [x] => if Dx x || isDigit x || x == 46 then 1 else 0
 | x :: y :: r => if (x = 101 ∨ x = 69 ∨ x = 112 ∨ x = 80) ∧ (y = 43 ∨ y = 45) then 2 + Mb r
  else if Dx x || isDigit x || x == 46 then 1 + Mb (y :: r) else 0
def Ui (s : B8) : Nat := if isDigit (at0 s 0) || (at0 s 0 == 46 && isDigit (at0 s 1)) then 1 + Mb (s.drop 1) else 0
def idL (s : B8) : Nat := (s.takeWhile fun x => Dx x || isDigit x).length
def Cr : List B8 := [[37, 58, 37, 58], [46, 46, 46], [60, 60, 61], [62, 62, 61], [45, 62], [43, 43], [45, 45], [60, 60], [62, 62], [60, 61], [62, 61], [61, 61], [33, 61], [38, 38], [124, 124], [42, 61], [47, 61], [37, 61], [43, 61], [45, 61], [38, 61], [94, 61], [124, 61], [35, 35], [60, 58], [58, 62], [60, 37], [37, 62], [37, 58],
 [91], [93], [40], [41], [123], [125], [46], [38], [42], [43], [45], [126], [33], [47], [37], [60], [62], [94], [124], [63], [58], [59], [61], [44], [35]]
def Afu (s : B8) : Nat := match Cr.find? (fun p => p.isPrefixOf s) with
 | some p => p.length
 | none => 0
def Ov (s : B8) : Nat × Nat × Bool :=
 if Dx (at0 s 0) then (1, 1 + idL (s.drop 1), false)
 else if 0 < Ui s then (2, Ui s, false)
 else if 0 < Afu s then (5, Afu s, false)
 else (6, 1, false)
def Gw (s : B8) : Nat × Nat × Bool := match Wg s with
 | some k => match Gz (at0 s k) (s.drop (k + 1)) with
  | some n => (if at0 s k = 34 then 4 else 3, k + 1 + n, false)
  | none => if k = 0 then (6, 1, true) else Ov s
 | none => Ov s
def Ti : B8 → Option Nat
 | [] => none
 | [_] => none
 | x :: y :: r => if x = 42 ∧ y = 47 then some 2 else (Ti (y :: r)).map (· + 1)
def Qp (s : B8) : Option (Nat × Bool) :=
 if at0 s 0 ≠ 47 then none
 else if at0 s 1 = 47 then some ((s.takeWhile (· ≠ 10)).length, false)
 else if at0 s 1 ≠ 42 then none
 else match Ti (s.drop 2) with
  | some n => some (n + 2, false)
  | none => some (s.length, true)
theorem Ya {q : UInt8} : ∀ {s : B8} {n : Nat}, Gz q s = some n → 0 < n ∧ n ≤ s.length
 | [], n, h => by simp [Gz] at h
 | [x], n, h => by
  unfold Gz at h
  split at h
  · cases h
  · split at h
    · cases h; simp
    · cases h
 | x :: y :: r, n, h => by
  unfold Gz at h
  split at h
  · cases h
  · split at h
    · cases e : Gz q r with
      | none => rw [e] at h; cases h
      | some m =>
       rw [e] at h; cases h
       have := Ya e
       simp only [List.length_cons]; omega
    · split at h
      · cases h; simp
      · cases e : Gz q (y :: r) with
        | none => rw [e] at h; cases h
        | some m =>
         rw [e] at h; cases h
         have := Ya e
         simp only [List.length_cons] at this ⊢; omega
theorem Afz : ∀ s : B8, Mb s ≤ s.length
 | [] => Nat.le_refl _
 | [x] => by unfold Mb; split <;> simp
 | x :: y :: r => by
  have h1 := Afz r
  have h2 := Afz (y :: r)
  unfold Mb
  simp only [List.length_cons] at h2 ⊢
  split
  · omega
  · split <;> omega
theorem A5p (s : B8) : idL s ≤ s.length := by
 unfold idL
 induction s with
 | nil => exact Nat.le_refl _
 | cons x s ih =>
  rw [List.takeWhile_cons]
  split
  · simp only [List.length_cons]; omega
  · simp
theorem An9 (s : B8) : Afu s ≤ s.length := by
 unfold Afu
 split
 · rename_i p h
   have := List.find?_some h
   obtain ⟨t, e⟩ := List.isPrefixOf_iff_prefix.1 this
   rw [← e, List.length_append]; omega
 · exact Nat.zero_le _
theorem Aif {s : B8} (h : s ≠ []) : 0 < (Ov s).2.1 ∧ (Ov s).2.1 ≤ s.length := by
 have hl : 0 < s.length := List.length_pos_iff.2 h
 have hd : (s.drop 1).length = s.length - 1 := by simp
 unfold Ov
 split
 · have := A5p (s.drop 1)
   simp only []; omega
 · split
   · rename_i h1
     refine ⟨h1, ?_⟩
     simp only [] at h1 ⊢
     unfold Ui at h1 ⊢
     split
     · have := Afz (s.drop 1); omega
     · exact Nat.zero_le _
   · split
     · rename_i h1; exact ⟨h1, An9 s⟩
     · simp only []; omega
theorem Ats {s : B8} (h : s ≠ []) : 0 < (Gw s).2.1 ∧ (Gw s).2.1 ≤ s.length := by
 have hl : 0 < s.length := List.length_pos_iff.2 h
 unfold Gw
 split
 · rename_i k hk
   split
   · rename_i n hn
     have := Ya hn
     have hd : (s.drop (k + 1)).length = s.length - (k + 1) := by simp
     simp only []; omega
   · split
     · simp only []; omega
     · exact Aif h
 · exact Aif h
end Go.Lx
namespace Go.Lx
abbrev Rn := UInt8 × Nat × Nat
def bts (l : List Rn) : B8 := l.map (·.1)
def Vw : B8 := [61, 47, 39, 40, 41, 33, 60, 62, 45]
def Adi : B8 := [35, 92, 94, 91, 93, 124, 123, 125, 126]
def tri (c : UInt8) : Option UInt8 := (Vw.zip Adi).find? (fun p => p.1 == c) |>.map (·.2)
def Dd : Nat → B8 → List Rn
 | _, [] => []
 | i, [a] => [(a, i, i + 1)]
 | i, [a, b] => [(a, i, i + 1), (b, i + 1, i + 2)]
 | i, a :: b :: c :: r => if a = 63 ∧ b = 63 then (match tri c with
  | some d => (d, i, i + 3) :: Dd (i + 3) r
  | none => (a, i, i + 1) :: Dd (i + 1) (b :: c :: r))
  else (a, i, i + 1) :: Dd (i + 1) (b :: c :: r)
def Ig : List Rn → List Rn
 | [] => []
 | [x] => [x]
 | x :: y :: r => if x.1 = 92 ∧ y.1 = 10 then Ig r else x :: Ig (y :: r)
def Ez (s : B8) : List Rn :=
 if s ≠ [] ∧ ((Ig (Dd 0 s)).getLast?.map (·.1)) ≠ some 10 then Ig (Dd 0 s) ++ [(10, s.length, s.length)] else Ig (Dd 0 s)
def Ry : Nat → B8 → Bool → List (Nat × B8 × Bool)
 | 0, _, _ => []
 | _ + 1, [], _ => []
 | k + 1, x :: s, sp =>
  if x = 10 then []
  else if Gr x then Ry k s true
  else match Qp (x :: s) with
   | some (_, true) => []
   | some (j, false) => Ry k ((x :: s).drop j) true
   | none => ((Gw (x :: s)).1, (x :: s).take (Gw (x :: s)).2.1, sp) :: Ry k ((x :: s).drop (Gw (x :: s)).2.1) false
end Go.Lx
namespace Go.Lx
def rnF : Nat → B8 → List Rn
 | _, [] => []
 | i, x :: s => (x, i, i + 1) :: rnF (i + 1) s
theorem Apa : ∀ (s : B8) (i : Nat), bts (rnF i s) = s
 | [], _ => rfl
 | x :: s, i => by show x :: bts (rnF (i + 1) s) = _; rw [Apa s (i + 1)]
def Ap4 : B8 → Bool
 | a :: b :: r => !(a == 63 && b == 63) && Ap4 (b :: r)
 | _ => true
theorem Acj : ∀ (s : B8) (i : Nat), Ap4 s = true → Dd i s = rnF i s
 | [], _, _ => rfl
 | [_], _, _ => rfl
 | [_, _], _, _ => rfl
 | a :: b :: c :: r, i, h => by
  have h : (!(a == 63 && b == 63) && Ap4 (b :: c :: r)) = true := h
  simp only [Bool.and_eq_true, Bool.not_eq_true', Bool.and_eq_false_iff, beq_eq_false_iff_ne] at h
  have hn : ¬ (a = 63 ∧ b = 63) := fun e => h.1.elim (fun h1 => h1 e.1) (fun h1 => h1 e.2)
  unfold Dd
  rw [if_neg hn, Acj (b :: c :: r) (i + 1) h.2]
  rfl
theorem Amr : ∀ l : List Rn, (∀ x ∈ l, x.1 ≠ 10) → Ig l = l
 | [], _ => rfl
 | [_], _ => rfl
 | x :: y :: r, h => by
  unfold Ig
  rw [if_neg (fun e => h y (by simp) e.2), Amr (y :: r) fun z hz => h z (by simp only [List.mem_cons] at hz ⊢; exact .inr hz)]
theorem Ah0 {s : B8} (h : ∀ x ∈ s, x ≠ 10) : ∀ i, ∀ x ∈ rnF i s, x.1 ≠ 10 := by
 induction s with
 | nil => intro i x hx; cases hx
 | cons a s ih =>
  intro i x hx
  rcases List.mem_cons.1 hx with rfl | hx
  · exact h a (by simp)
  · exact ih (fun y hy => h y (by simp [hy])) _ _ hx
theorem Ajo {s : B8} (h0 : s ≠ []) (h10 : ∀ x ∈ s, x ≠ 10) (hq : Ap4 s = true) : Ez s = rnF 0 s ++ [(10, s.length, s.length)] := by
 unfold Ez
 rw [Acj s 0 hq, Amr _ (Ah0 h10 0), if_pos]
 refine ⟨h0, fun e => ?_⟩
 cases hl : (rnF 0 s).getLast? with
 | none => rw [hl] at e; cases e
 | some x =>
  rw [hl] at e
  have : x.1 = 10 := by simpa using e
  exact Ah0 h10 0 x (List.mem_of_getLast? hl) this
end Go.Lx
