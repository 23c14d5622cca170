/-
  A part of the proof: the tokens of words, with what stands between.
-/
import Derived.Test.YtdpnnajfmkpfjaaGreatDoorLexa
namespace Go.Den
open Go.RowKit
set_option maxRecDepth 100000
theorem all8 {P : UInt8 → Bool} (h : (List.range 256).all (fun i => P (UInt8.ofNat i)) = true) (b : UInt8) : P b = true := by
  have := List.all_eq_true.1 h b.toNat (List.mem_range.2 b.toNat_lt)
  rwa [UInt8.ofNat_toNat] at this
theorem bt_app (A R : List UInt8) (j : Nat) : bt (A ++ R) (A.length + j) = bt R j := by
  unfold bt
  rw [List.getD_eq_getElem?_getD, List.getD_eq_getElem?_getD, List.getElem?_append_right (by omega), show A.length + j - A.length = j by omega]
theorem bt_left {w R : List UInt8} {j : Nat} (h : j < w.length) : bt (w ++ R) j = w[j] := by
  unfold bt
  rw [List.getD_eq_getElem?_getD, List.getElem?_append_left h, List.getElem?_eq_getElem h]; rfl
theorem bt_0 (A : List UInt8) (x : UInt8) (R : List UInt8) : bt (A ++ x :: R) A.length = x := by
  have := bt_app A (x :: R) 0
  rw [Nat.add_zero] at this
  rw [this]; rfl
theorem bt_1 (A : List UInt8) (x y : UInt8) (R : List UInt8) : bt (A ++ x :: y :: R) (A.length + 1) = y := by
  rw [bt_app]; rfl
/-- signs of a name, and what may stand behind each -/
structure Wd (w : List UInt8) (c : UInt8) : Prop where
  ne : w ≠ []
  chars : ∀ x ∈ w, nameC x = true
  stop : stopC c = true
  join : ∀ x, w.getLast? = some x → joinOk x c = true
  slash : ∀ j (hj : j < w.length), w[j] = 47 → bt (w ++ [c]) (j + 1) ≠ 47 ∧ bt (w ++ [c]) (j + 1) ≠ 42
theorem Lx.word {A w R : List UInt8} {c : UInt8} {Q : List Tok → Prop} {b : Bool} {T : List Tok} (hl : (A ++ (w ++ c :: R)).length ≤ 1000000) (hw : Wd w c)
    (hk : ∀ T', T' ≠ [] → txt T' = sp b ++ w → Lx (A ++ (w ++ c :: R)) Q (A.length + w.length) false (T ++ T')) : Lx (A ++ (w ++ c :: R)) Q A.length b T := by
  have hpos : 0 < w.length := List.length_pos_iff.2 hw.ne
  have hlen : (A ++ (w ++ c :: R)).length = A.length + (w.length + (R.length + 1)) := by simp
  have e1 : ∀ j, A.length ≤ j → (hj : j < A.length + w.length) → bt (A ++ (w ++ c :: R)) j = w[j - A.length]'(by omega) := fun j h1 h2 => by
    have := bt_app A (w ++ c :: R) (j - A.length)
    rw [show A.length + (j - A.length) = j by omega] at this
    rw [this, bt_left]
  have e2 : bt (A ++ (w ++ c :: R)) (A.length + w.length) = c := by rw [bt_app, bt_0]
  refine Lx.seg hl (m := A.length + w.length) w.length A.length (by omega) ⟨by omega, by omega, fun j hj h1 h2 => ?_, by rw [e2]; exact hw.stop, ?_, fun j h1 h2 h3 => ?_⟩ fun T' h1 h2 => hk T' h1 ?_
  · rw [bt_of hj, e1 j h1 h2]; exact hw.chars _ (List.getElem_mem _)
  · rw [e2, e1 _ (by omega) (by omega)]
    refine hw.join _ ?_
    rw [List.getLast?_eq_getElem?, List.getElem?_eq_getElem (by omega)]
    congr 2; omega
  · rw [e1 j h1 h2] at h3
    have := hw.slash (j - A.length) (by omega) h3
    have e3 : bt (A ++ (w ++ c :: R)) (j + 1) = bt (w ++ [c]) (j - A.length + 1) := by
      have h4 := bt_app A (w ++ c :: R) (j - A.length + 1)
      rw [show A.length + (j - A.length + 1) = j + 1 by omega] at h4
      rw [h4]
      by_cases e : j - A.length + 1 < w.length
      · rw [bt_left e, bt_left e]
      · have e' : j - A.length + 1 = w.length := by omega
        rw [e', bt_0, bt_0]
    rw [e3]; exact this
  · rw [h2, List.drop_left']
    · congr 1
      rw [show A.length + w.length - A.length = w.length by omega, List.take_left']; rfl
    · rfl
theorem Lx.blank {A R : List UInt8} {Q : List Tok → Prop} {b : Bool} {T : List Tok} (hk : Lx (A ++ 32 :: R) Q (A.length + 1) true T) : Lx (A ++ 32 :: R) Q A.length b T := by
  have hi : A.length < (A ++ 32 :: R).length := by simp
  have e : (A ++ 32 :: R)[A.length] = 32 := by rw [bt_of hi, bt_0]
  exact Lx.ws hi (by rw [e]; decide) (by rw [e]; decide) hk
theorem Lx.angle {A R : List UInt8} {x y : UInt8} {Q : List Tok → Prop} {b : Bool} {T : List Tok} (hl : (A ++ x :: y :: R).length ≤ 1000000) (hx : x = 60 ∨ x = 62) (hj : joinOk x y = true) (hk : ∀ f t, Lx (A ++ x :: y :: R) Q (A.length + 1) false (T ++ [⟨5, [x], b, f, t⟩])) : Lx (A ++ x :: y :: R) Q A.length b T := by
  have e0 := bt_0 A x (y :: R)
  have e1 := bt_1 A x y R
  refine Lx.p (by simp) hl (by rw [e0]; exact hx) (by rw [e0, e1]; exact hj) fun f t => ?_
  rw [e0]; exact hk f t
/-- words with something between them -/
def jn (g : List UInt8) : List (List UInt8) → List UInt8
  | [] => []
  | w :: ws => w ++ ws.flatMap (fun x => g ++ x)
theorem jn_snoc (g : List UInt8) (l : List (List UInt8)) (x : List UInt8) (h : l ≠ []) : jn g (l ++ [x]) = jn g l ++ g ++ x := by
  cases l with
  | nil => exact absurd rfl h
  | cons w ws =>
    show w ++ (ws ++ [x]).flatMap _ = w ++ ws.flatMap _ ++ g ++ x
    rw [List.flatMap_append]; simp
def lowC (x : UInt8) : Bool := decide (97 ≤ x.toNat) && decide (x.toNat ≤ 122)
/-- what is space -/
structure Gap (g : List UInt8) : Prop where
  ne : ∃ c g', g = c :: g' ∧ stopC c = true ∧ ∀ x : UInt8, (lowC x || x == 46) = true → joinOk x c = true
  go : ∀ {A R : List UInt8} {Q : List Tok → Prop} {b : Bool} {T : List Tok}, Lx (A ++ (g ++ R)) Q (A.length + g.length) true T → Lx (A ++ (g ++ R)) Q A.length b T
theorem low_name {x : UInt8} (h : (lowC x || x == 46) = true) : nameC x = true ∧ x ≠ 47 := by
  have := all8 (P := fun x => !(lowC x || x == 46) || (nameC x && x != 47)) (by kernel_rfl) x
  rw [h] at this
  simp only [Bool.not_true, Bool.false_or, Bool.and_eq_true, bne_iff_ne] at this
  exact this
theorem wd_low {w : List UInt8} {c : UInt8} (hw : w ≠ []) (hl : ∀ x ∈ w, (lowC x || x == 46) = true) (hs : stopC c = true) (hj : ∀ x : UInt8, (lowC x || x == 46) = true → joinOk x c = true) : Wd w c :=
  ⟨hw, fun x hx => (low_name (hl x hx)).1, hs, fun x hx => hj x (hl x (List.mem_of_getLast? hx)), fun j hj h => absurd h (low_name (hl _ (List.getElem_mem hj))).2⟩
theorem join62 (x : UInt8) (h : (lowC x || x == 46) = true) : joinOk x 62 = true := by
  have := all8 (P := fun x => !(lowC x || x == 46) || joinOk x 62) (by kernel_rfl) x
  rw [h] at this; exact this
theorem join32 (x : UInt8) (h : (lowC x || x == 46) = true) : joinOk x 32 = true := by
  have := all8 (P := fun x => !(lowC x || x == 46) || joinOk x 32) (by kernel_rfl) x
  rw [h] at this; exact this
theorem join47 (x : UInt8) (h : (lowC x || x == 46) = true) : joinOk x 47 = true := by
  have := all8 (P := fun x => !(lowC x || x == 46) || joinOk x 47) (by kernel_rfl) x
  rw [h] at this; exact this
theorem join60 (x : UInt8) (h : (lowC x || x == 46) = true) : joinOk 60 x = true := by
  have := all8 (P := fun x => !(lowC x || x == 46) || joinOk 60 x) (by kernel_rfl) x
  rw [h] at this; exact this
theorem gap1 : Gap [32] := ⟨⟨32, [], rfl, by decide, join32⟩, fun h => Lx.blank h⟩
theorem gap2 : Gap [32, 32] := ⟨⟨32, [32], rfl, by decide, join32⟩, fun {A R Q b T} h => by
  refine Lx.blank (A := A) (R := 32 :: R) ?_
  have e : A ++ ([32, 32] ++ R) = (A ++ [32]) ++ 32 :: R := by simp
  show Lx (A ++ ([32, 32] ++ R)) Q _ true T
  rw [e] at h ⊢
  have := Lx.blank (A := A ++ [32]) (R := R) (Q := Q) (b := true) (T := T) (by rw [List.length_append]; exact h)
  rwa [List.length_append] at this⟩
theorem gap3 : Gap [47, 42, 42, 47] := ⟨⟨47, [42, 42, 47], rfl, by decide, join47⟩, fun {A R Q b T} h => by
  have hl : A.length + 3 < (A ++ ([47, 42, 42, 47] ++ R)).length := by simp
  refine Lx.cc hl ?_ ?_ ?_ ?_ h
  · rw [bt_of]; exact bt_0 A 47 (42 :: 42 :: 47 :: R)
  · rw [bt_of, bt_app]; rfl
  · rw [bt_of, bt_app]; rfl
  · rw [bt_of, bt_app]; rfl⟩
theorem Lx.words {g : List UInt8} (hg : Gap g) {c : UInt8} {R : List UInt8} {Q : List Tok → Prop} (hs : stopC c = true) (hj : ∀ x : UInt8, (lowC x || x == 46) = true → joinOk x c = true) : ∀ (ws : List (List UInt8)) (A : List UInt8) {b : Bool} {T : List Tok}, ws ≠ [] → (∀ w ∈ ws, w ≠ [] ∧ ∀ x ∈ w, (lowC x || x == 46) = true) → (A ++ (jn g ws ++ c :: R)).length ≤ 1000000 →
    (∀ T', T' ≠ [] → txt T' = sp b ++ jn [32] ws → Lx (A ++ (jn g ws ++ c :: R)) Q (A.length + (jn g ws).length) false (T ++ T')) → Lx (A ++ (jn g ws ++ c :: R)) Q A.length b T
  | [], _, _, _, h, _, _, _ => absurd rfl h
  | [w], A, b, T, _, hw, hl, hk => by
    have e : ∀ g, jn g [w] = w := fun g => List.append_nil w
    rw [e g, e [32]] at hk
    rw [e g] at hl ⊢
    exact Lx.word hl (wd_low (hw w List.mem_cons_self).1 (hw w List.mem_cons_self).2 hs hj) fun T' h1 h2 => hk T' h1 h2
  | w :: w2 :: ws, A, b, T, _, hw, hl, hk => by
    obtain ⟨c0, g', hg1, hg2, hg3⟩ := hg.ne
    have hw1 := hw w List.mem_cons_self
    have e : ∀ g, jn g (w :: w2 :: ws) = w ++ (g ++ jn g (w2 :: ws)) := fun g => by
      show w ++ (w2 :: ws).flatMap _ = w ++ (g ++ (w2 ++ ws.flatMap _))
      rw [List.flatMap_cons, List.append_assoc]
    have e1 : A ++ (jn g (w :: w2 :: ws) ++ c :: R) = A ++ (w ++ c0 :: (g' ++ (jn g (w2 :: ws) ++ c :: R))) := by rw [e, hg1]; simp
    have e2 : A ++ (jn g (w :: w2 :: ws) ++ c :: R) = (A ++ w) ++ (g ++ (jn g (w2 :: ws) ++ c :: R)) := by rw [e]; simp
    have e3 : A ++ (jn g (w :: w2 :: ws) ++ c :: R) = (A ++ w ++ g) ++ (jn g (w2 :: ws) ++ c :: R) := by rw [e]; simp
    have key : ∀ T', T' ≠ [] → txt T' = sp b ++ w → Lx (A ++ (jn g (w :: w2 :: ws) ++ c :: R)) Q (A.length + w.length) false (T ++ T') := by
      intro T1 h1 h2
      rw [e2]
      have := hg.go (A := A ++ w) (R := jn g (w2 :: ws) ++ c :: R) (Q := Q) (b := false) (T := T ++ T1) ?_
      · rwa [List.length_append] at this
      rw [← e2, e3]
      have := Lx.words hg hs hj (w2 :: ws) (A ++ w ++ g) (b := true) (T := T ++ T1) (R := R) (Q := Q) (by simp) (fun x hx => hw x (List.mem_cons_of_mem _ hx)) (by rw [← e3]; exact hl) (fun T2 h3 h4 => ?_)
      · rwa [List.length_append] at this
      rw [← e3, List.append_assoc T T1 T2]
      have := hk (T1 ++ T2) (by simp [h1]) (by rw [txt_app, h2, h4, e]; show sp b ++ w ++ ([32] ++ _) = _; simp)
      rw [e] at this
      rw [e]
      have el : A.length + (w ++ (g ++ jn g (w2 :: ws))).length = (A ++ w ++ g).length + (jn g (w2 :: ws)).length := by simp; omega
      rwa [el] at this
    rw [e1] at hl key ⊢
    exact Lx.word hl (wd_low hw1.1 hw1.2 hg2 hg3) key
end Go.Den
