/-
 Part of the proof.
-/
import Derived.Test.YtcnmehbkpaoolaaGreatDoorSts
namespace Go.Den
open Go.RowKit
set_option maxRecDepth 100000
section
variable (w o : Nat)
def pfS (i : Nat) : List UInt8 := if i = w then [76] else if i = o then [117, 56] else []
def txS : List (List UInt8) → Nat → List UInt8
 | [], _ => []
 | s :: l, i => pfS w o i ++ Gq s ++ 32 :: txS l (i + 1)
def toS : List (List UInt8) → Nat → List Amf
 | [], _ => []
 | s :: l, i => (4, pfS w o i ++ Gq s) :: toS l (i + 1)
def Oy (i : Nat) : List UInt8 := if w < i then (if o < w then [117, 56] else [76]) else if o < i ∧ o ≠ w then [117, 56] else []
def Ahk (i : Nat) : Bool := decide (w < i ∧ o < i ∧ o ≠ w)
def Vg (i : Nat) : Nat := if w < i ∧ o < i ∧ o ≠ w then 1 else 0
variable {w o}
theorem Aft (i : Nat) : pfS w o i ∈ Ah9 := by
 unfold pfS Ah9
 split
 · simp
 · split <;> simp
theorem Afs (i : Nat) : (pfS w o i).length ≤ 2 := by
 unfold pfS
 split
 · decide
 · split <;> decide
theorem Ahi : ∀ (l : List (List UInt8)) (s : List UInt8) (i : Nat), txS w o (l ++ [s]) i = txS w o l i ++ (pfS w o (i + l.length) ++ Gq s ++ [32])
 | [], s, i => by simp [txS]
 | a :: l, s, i => by
  rw [List.cons_append, txS, Ahi l s (i + 1), txS, List.length_cons, show i + 1 + l.length = i + (l.length + 1) by omega]
  simp
theorem Aok : ∀ (l : List (List UInt8)) (i : Nat), (∀ s ∈ l, okS s) → Lxs (txS w o l i) (toS w o l i)
 | [], _, _ => Lxs.nil
 | s :: l, i, h => (Aok l (i + 1) fun x hx => h x (List.mem_cons_of_mem _ hx)).blank.str (Aft i) (h s (by simp))
theorem Amp : ∀ (l : List (List UInt8)) (i : Nat), (∀ s ∈ l, s.length ≤ 30) → (txS w o l i).length ≤ 65 * l.length
 | [], _, _ => Nat.le_refl _
 | s :: l, i, h => by
  have h1 := Amp l (i + 1) fun x hx => h x (List.mem_cons_of_mem _ hx)
  have h2 := h s (by simp)
  have h3 := Pw s
  have h4 := Afs (w := w) (o := o) i
  rw [txS, List.length_append, List.length_append, List.length_cons, List.length_cons]
  omega
theorem Ay2 {s : List UInt8} (h : okS s) : ∀ x ∈ Gq s, x ≠ 10 ∧ x ≠ 63 := by
 intro x hx
 unfold Gq at hx
 rcases List.mem_cons.1 hx with rfl | hx
 · decide
 rcases List.mem_append.1 hx with hx | hx
 · unfold Bl at hx
   obtain ⟨c, hc, hx⟩ := List.mem_flatMap.1 hx
   obtain ⟨c1, _, c3⟩ := h c hc
   split at hx
   · simp only [List.mem_cons, List.not_mem_nil, or_false] at hx
     rcases hx with rfl | rfl
     · decide
     · exact ⟨c1, c3⟩
   · simp only [List.mem_cons, List.not_mem_nil, or_false] at hx
     subst hx; exact ⟨c1, c3⟩
 · simp only [List.mem_cons, List.not_mem_nil, or_false] at hx
   subst hx; decide
theorem Arm : ∀ (l : List (List UInt8)) (i : Nat), (∀ s ∈ l, okS s) → ∀ x ∈ txS w o l i, x ≠ 10 ∧ x ≠ 63
 | [], _, _, x, hx => absurd hx (by simp [txS])
 | s :: l, i, h, x, hx => by
  rw [txS] at hx
  rcases List.mem_append.1 hx with hx | hx
  · rcases List.mem_append.1 hx with hx | hx
    · have := Aft (w := w) (o := o) i
      simp only [Ah9, List.mem_cons, List.not_mem_nil, or_false] at this
      rcases this with e | e | e
      · rw [e] at hx; cases hx
      · rw [e] at hx; simp only [List.mem_cons, List.not_mem_nil, or_false] at hx; subst hx; decide
      · rw [e] at hx; simp only [List.mem_cons, List.not_mem_nil, or_false] at hx
        rcases hx with rfl | rfl <;> decide
    · exact Ay2 (h s (by simp)) x hx
  · rcases List.mem_cons.1 hx with rfl | hx
    · decide
    · exact Arm l (i + 1) (fun y hy => h y (List.mem_cons_of_mem _ hy)) x hx
theorem Adj : ∀ (l : List (List UInt8)) (i : Nat), (toS w o l i).length = l.length
 | [], _ => rfl
 | s :: l, i => by rw [toS, List.length_cons, Adj l (i + 1), List.length_cons]
theorem Arn : ∀ (l : List (List UInt8)) (i : Nat), (∀ s ∈ l, s.length ≤ 30) → ∀ t ∈ toS w o l i, t.2.length ≤ 64
 | [], _, _, t, ht => absurd ht (by simp [toS])
 | s :: l, i, h, t, ht => by
  rw [toS] at ht
  rcases List.mem_cons.1 ht with rfl | ht
  · have h2 := h s (by simp)
    have h3 := Pw s
    have h4 := Afs (w := w) (o := o) i
    show (pfS w o i ++ Gq s).length ≤ 64
    rw [List.length_append]; omega
  · exact Arn l (i + 1) (fun y hy => h y (List.mem_cons_of_mem _ hy)) t ht
theorem Bho {g : GS} {x : Dz} {s : List UInt8} {i k : Nat} (hx : x.text = pfS w o i ++ Gq s) (h1 : g.first = Oy w o i) (h2 : g.told = Ahk w o i) (h3 : g.ds.length = Vg w o i) :
 (g.add x s k).first = Oy w o (i + 1) ∧ (g.add x s k).told = Ahk w o (i + 1) ∧ (g.add x s k).ds.length = Vg w o (i + 1) := by
 have hl : (Be x.text).1 = pfS w o i := by rw [hx, Aom (Aft i)]
 unfold GS.add
 rw [hl, h1, h2]
 unfold pfS Oy Ahk Vg at *
 by_cases e1 : i = w
 · subst e1
   by_cases e2 : o < i
   · have e3 : o ≠ i := by omega
     have e4 : o < i + 1 := by omega
     simp [e2, e3, e4] at *
     simp [h3]
   · have e4 : ¬ (o < i + 1 ∧ o ≠ i) := by omega
     have e5 : ¬ (o < i ∧ o ≠ i) := by omega
     simp [e2, e4] at *
     exact h3
 · by_cases e2 : i = o
   · subst e2
     by_cases e3 : w < i
     · have e4 : w < i + 1 := by omega
       have e5 : ¬ i < w := by omega
       have e6 : i ≠ w := e1
       simp [e1, e3, e4, e5] at *
       simp [h3]
     · have e4 : ¬ w < i + 1 := by omega
       simp [e1, e3, e4] at *
       exact h3
   · have e3 : (w < i + 1) = (w < i) := by apply propext; omega
     have e4 : (o < i + 1) = (o < i) := by apply propext; omega
     simp only [e1, e2, if_false, e3, e4, true_or, if_true]
     exact ⟨trivial, trivial, h3⟩
theorem Auw : ∀ (l : List (List UInt8)) (T : List Dz) (i k : Nat) (g : GS), (∀ z ∈ T, 0 ≤ z.kind) → T.map tk = toS w o l i → (∀ s ∈ l, okS s) → g.first = Oy w o i → g.told = Ahk w o i → g.ds.length = Vg w o i →
    (Ds T k g).first = Oy w o (i + l.length) ∧ (Ds T k g).ds.length = Vg w o (i + l.length) ∧ (Ds T k g).acc = g.acc ++ l.flatten ∧ (Ds T k g).cnt = g.cnt + l.length ∧ (Ds T k g).used = if l = [] then g.used else k + l.length
  | [], [], i, k, g, _, _, _, h1, _, h3 => ⟨h1, h3, by simp [Ds], rfl, by simp [Ds]⟩
  | [], _ :: _, _, _, _, _, h, _, _, _, _ => by cases h
  | _ :: _, [], _, _, _, _, h, _, _, _, _ => by cases h
  | s :: l, x :: T, i, k, g, h0, h, hs, h1, h2, h3 => by
    rw [List.map_cons, toS] at h
    have hx := (List.cons.inj h).1
    have hT := (List.cons.inj h).2
    have hk : x.kind = 4 := by
      have : x.kind.toNat = 4 := congrArg Prod.fst hx
      have := h0 x (by simp)
      omega
    have ht : x.text = pfS w o i ++ Gq s := congrArg Prod.snd hx
    have hb : Ki x.text = some s := by rw [ht]; exact A0t (Aft i) (hs s (by simp))
    obtain ⟨a1, a2, a3⟩ := Bho (k := k + 1) ht h1 h2 h3
    obtain ⟨b1, b2, b3, _⟩ := GS.Ag3 g x s (k + 1)
    obtain ⟨c1, c2, c3, c4, c5⟩ := Auw l T (i + 1) (k + 1) (g.add x s (k + 1)) (fun z hz => h0 z (List.mem_cons_of_mem _ hz)) hT (fun y hy => hs y (List.mem_cons_of_mem _ hy)) a1 a2 a3
    have e : Ds (x :: T) k g = Ds T (k + 1) (g.add x s (k + 1)) := by
      rw [Ds, if_neg (by rw [hk]; decide), if_pos hk, hb]
    rw [e]
    refine ⟨by rw [c1]; congr 1; simp; omega, by rw [c2]; congr 1; simp; omega, by rw [c3, b3]; simp, by rw [c4, b1]; simp; omega, ?_⟩
    rw [c5, if_neg (show ¬ (s :: l = []) by simp), List.length_cons]
    by_cases q : l = []
    · subst q; rw [if_pos rfl, b2]; rfl
    · rw [if_neg q]; omega
theorem A8s {l : List (List UInt8)} {T : List Dz} (h0 : ∀ z ∈ T, 0 ≤ z.kind) (hT : T.map tk = toS w o l 0) (hs : ∀ s ∈ l, okS s) (hl : l ≠ []) :
 ∃ a b, (Eb T 0 0).1 = [a, b] ∧ a.kind = 6 ∧ a.text = Oy w o l.length ++ Gq l.flatten ∧ a.cnt = l.length ∧ (Eb T 0 0).2.length = Vg w o l.length := by
 obtain ⟨g1, g2, g3, g4, g5⟩ := Auw (w := w) (o := o) l T 0 0 g0 h0 hT hs (by simp [Oy, g0]) (by simp [Ahk, g0]) (by simp [Vg, g0])
 have hlen : T.length = l.length := by
  have := congrArg List.length hT
  rwa [List.length_map, Adj] at this
 have hpos : 0 < l.length := List.length_pos_iff.2 hl
 cases T with
 | nil => simp at hlen; omega
 | cons x T =>
  have hk : x.kind = 4 := by
   cases l with
   | nil => exact absurd rfl hl
   | cons s l =>
    rw [List.map_cons, toS] at hT
    have : x.kind.toNat = 4 := congrArg Prod.fst (List.cons.inj hT).1
    have := h0 x (by simp)
    omega
  rw [if_neg hl] at g5
  have g4' : (Ds (x :: T) 0 g0).cnt = l.length := by rw [g4]; simp [g0]
  have g3' : (Ds (x :: T) 0 g0).acc = l.flatten := by rw [g3]; simp [g0]
  rw [Nat.zero_add] at g1 g2 g5
  have hT1 : T.length = l.length - 1 := by simp at hlen; omega
  rw [Eb, if_pos hk, if_neg (by rw [g4']; omega), g5, Tg T 1 (l.length - 1) (by omega), List.drop_of_length_le (by omega), Eb]
  refine ⟨_, _, rfl, rfl, ?_, ?_, ?_⟩
  · show (Ds (x :: T) 0 g0).first ++ Gq (Ds (x :: T) 0 g0).acc = _
    rw [g1, g3']
  · exact g4'
  · show ((Ds (x :: T) 0 g0).ds ++ []).length = _
    rw [List.append_nil, g2]
end
end Go.Den
