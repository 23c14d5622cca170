/-
  A part of the proof.
-/
import Derived.Test.YtcnmehbkpaoolaaGreatDoorEvc
import Derived.Test.YtcnmehbkpaoolaaGreatDoorNumw
import Derived.Test.YtcnmehbkpaoolaaGreatDoorToks
namespace Go.Den
open Go.RowKit
open Go.Lx (Tl Pw Aaj Pg Ht Pd Ady at0)
set_option maxRecDepth 100000
def Lxs (s : List UInt8) (ts : List Cb) : Prop := ∀ k sp, s.length < k → (Tl k (s ++ [10]) sp).map (fun b => (b.1, b.2.1)) = ts ∧ Ve k (s ++ [10]) = true
theorem Lxs.nil : Lxs [] [] := fun k sp h => by
  cases k with
  | zero => exact absurd h (Nat.not_lt_zero _)
  | succ k => exact ⟨by show (Tl (k + 1) [10] sp).map _ = []; rw [Tl, if_pos rfl]; rfl, by show Ve (k + 1) [10] = true; rw [Ve, if_pos rfl]; rfl⟩
theorem Lxs.blank {r : List UInt8} {ts : List Cb} (h : Lxs r ts) : Lxs (32 :: r) ts := fun k sp hk => by
  cases k with
  | zero => exact absurd hk (Nat.not_lt_zero _)
  | succ k =>
    have := h k true (by simp only [List.length_cons] at hk; omega)
    refine ⟨?_, ?_⟩
    · show (Tl (k + 1) (32 :: (r ++ [10])) sp).map _ = ts
      rw [Tl, if_neg (by decide), if_pos (by decide)]; exact this.1
    · show Ve (k + 1) (32 :: (r ++ [10])) = true
      rw [Ve, if_neg (by decide), if_pos (by decide)]; exact this.2
theorem Lxs.tok {x : UInt8} {w r : List UInt8} {ts : List Cb} {kd : Nat} (h : Lxs r ts) (h10 : x ≠ 10) (hw : Go.Lx.Er x = false) (hc : Pw (x :: (w ++ (r ++ [10]))) = none) (hn : Go.Lx.Gc (x :: (w ++ (r ++ [10]))) = (kd, 1 + w.length, false)) : Lxs (x :: (w ++ r)) ((kd, x :: w) :: ts) := fun k sp hk => by
  cases k with
  | zero => exact absurd hk (Nat.not_lt_zero _)
  | succ k =>
    have := h k false (by simp only [List.length_cons, List.length_append] at hk; omega)
    have e0 : x :: (w ++ r) ++ [10] = x :: (w ++ (r ++ [10])) := by simp
    have e1 : (x :: (w ++ (r ++ [10]))).take (1 + w.length) = x :: w := by
      rw [Nat.add_comm, List.take_succ_cons, List.take_left']; rfl
    have e2 : (x :: (w ++ (r ++ [10]))).drop (1 + w.length) = r ++ [10] := by
      rw [Nat.add_comm, List.drop_succ_cons, List.drop_left']; rfl
    refine ⟨?_, ?_⟩
    · rw [e0, Tl, if_neg h10, if_neg (by rw [hw]; simp), hc]
      simp only [hn, e1, e2, List.map_cons]
      rw [this.1]
    · rw [e0, Ve, if_neg h10, if_neg (by rw [show Er x = false from hw]; simp), hc]
      simp only [hn, e2, Bool.not_false, Bool.true_and]
      exact this.2
theorem Amo {x : UInt8} (h : x ∈ Lb) : Go.Lx.isDigit x = true ∧ Go.Lx.Aqq x = true ∧ x ≠ 10 ∧ Go.Lx.Er x = false ∧ x ≠ 47 := by
  have : ∀ y ∈ Lb, Go.Lx.isDigit y = true ∧ Go.Lx.Aqq y = true ∧ y ≠ 10 ∧ Go.Lx.Er y = false ∧ y ≠ 47 := by decide
  exact this x h
theorem Aq3 {x : UInt8} {r : List UInt8} (h : x ∈ Lb) : Aaj (x :: r) = none := by
  have e0 : at0 (x :: r) 0 = x := rfl
  have : ∀ y ∈ Lb, y ≠ 34 ∧ y ≠ 39 ∧ y ≠ 117 ∧ y ≠ 76 ∧ y ≠ 85 := by decide
  obtain ⟨a, b, c, d, e⟩ := this x h
  unfold Aaj
  rw [e0, if_neg (by simp [a, b]), if_neg (by simp [c]), if_neg (by simp [c, d, e])]
def Ash (r : List UInt8) : Prop := match r with
  | [] => True
  | c :: _ => Go.Lx.Rl c = true
theorem Lxs.num {X r : List UInt8} {ts : List Cb} {x : UInt8} (h : Lxs r ts) (hx : x ∈ Lb) (hX : ∀ y ∈ X, Go.Lx.Aqq y = true) (hr : Ash r) : Lxs (x :: (X ++ r)) ((2, x :: X) :: ts) := by
  obtain ⟨d1, d2, d3, d4, d5⟩ := Amo hx
  refine h.tok d3 d4 ?_ ?_
  · unfold Pw
    exact if_pos d5
  · obtain ⟨c, r', hc, he⟩ : ∃ c r', r ++ [10] = c :: r' ∧ Go.Lx.Rl c = true := by
      cases r with
      | nil => exact ⟨10, [], rfl, by decide⟩
      | cons c r => exact ⟨c, r ++ [10], rfl, hr⟩
    rw [hc]
    unfold Go.Lx.Gc
    rw [Aq3 hx]
    simp only []
    unfold Pg
    have e0 : at0 (x :: (X ++ c :: r')) 0 = x := rfl
    have hl : Go.Lx.Co x = false := by
      have : ∀ y ∈ Lb, Go.Lx.Co y = false := by decide
      exact this x hx
    have hn0 : Pd (x :: (X ++ c :: r')) = 1 + X.length := by
      unfold Pd
      rw [e0, d1, Bool.true_or, if_pos rfl]
      show 1 + Ht (X ++ c :: r') = _
      rw [Go.Lx.Aba X c r' hX he]
    rw [e0, hl, if_neg (by simp), hn0, if_pos (by omega)]
theorem Lxs.op1 {x : UInt8} {r : List UInt8} {ts : List Cb} (h : Lxs r ts) (hx : x = 40 ∨ x = 41 ∨ x = 126 ∨ x = 63) : Lxs (x :: r) ((5, [x]) :: ts) := by
  rcases hx with rfl | rfl | rfl | rfl
  · exact h.tok (w := []) (by decide) (by decide) rfl rfl
  · exact h.tok (w := []) (by decide) (by decide) rfl rfl
  · exact h.tok (w := []) (by decide) (by decide) rfl rfl
  · exact h.tok (w := []) (by decide) (by decide) rfl rfl
def opsL : List (List UInt8) := [[124, 124], [38, 38], [124], [94], [38], [61, 61], [33, 61], [60], [62], [60, 61], [62, 61], [60, 60], [62, 62], [43], [45], [42], [47], [37]]
def Art : List UInt8 := [48, 49, 50, 51, 52, 53, 54, 55, 56, 57, 32, 40, 126]
theorem Avu : ∀ o ∈ opsL, ∀ c ∈ Art, ∀ r : List UInt8, Go.Lx.Gc (o ++ c :: r) = (5, o.length, false) ∧ Pw (o ++ c :: r) = none ∧ (∃ x w, o = x :: w ∧ x ≠ 10 ∧ Go.Lx.Er x = false) := by
  intro o ho c hc r
  simp only [opsL, Art, List.mem_cons, List.not_mem_nil, or_false] at ho hc
  rcases ho with rfl | rfl | rfl | rfl | rfl | rfl | rfl | rfl | rfl | rfl | rfl | rfl | rfl | rfl | rfl | rfl | rfl | rfl <;>
    (refine ⟨?_, ?_, _, _, rfl, by decide, by decide⟩ <;>
      rcases hc with rfl | rfl | rfl | rfl | rfl | rfl | rfl | rfl | rfl | rfl | rfl | rfl | rfl <;> rfl)
theorem Lxs.op {o : List UInt8} {c : UInt8} {r : List UInt8} {ts : List Cb} (h : Lxs (c :: r) ts) (ho : o ∈ opsL) (hc : c ∈ Art) : Lxs (o ++ c :: r) ((5, o) :: ts) := by
  obtain ⟨h1, h2, x, w, rfl, h3, h4⟩ := Avu o ho c hc (r ++ [10])
  refine h.tok (w := w) h3 h4 h2 ?_
  rw [show Go.Lx.Gc (x :: (w ++ (c :: r ++ [10]))) = Go.Lx.Gc ((x :: w) ++ c :: (r ++ [10])) from rfl, h1]
  show (5, (w.length + 1), false) = _
  rw [Nat.add_comm]
theorem Ad5 : ∀ {s : List UInt8}, (∀ x ∈ s, x ≠ 63) → Go.Lx.Hu s = true
  | [], _ => rfl
  | [_], _ => rfl
  | a :: b :: r, h => by
    show (!(a == 63 && b == 63) && Go.Lx.Hu (b :: r)) = true
    rw [Ad5 (fun x hx => h x (by simp only [List.mem_cons] at hx ⊢; exact .inr hx)), Bool.and_true]
    rw [show (a == 63) = false from beq_eq_false_iff_ne.2 (h a (by simp))]; rfl
theorem c29 {h : H} {s : List UInt8} {k : KV} (hs0 : s ≠ []) (hl : s.length ≤ 900000) (hs10 : ∀ x ∈ s, x ≠ 10) (hq : Go.Lx.Hu s = true) {ts : List Cb} (hx : Lxs s ts)
    (hk : ∀ h' v (T : List Tok), (T.map Au4).map tk = ts → T.length ≤ s.length + 1 → Exh h h' → RdT h' v (T.map Au4) → k v h') : W1 (.func 29) [S s] h k := by
  have hc : Go.Lx.bts (Go.Lx.Ga s) = s ++ [10] := by
    rw [Go.Lx.Ahv hs0 hs10 hq]
    show Go.Lx.bts (Go.Lx.rnF 0 s ++ [(10, s.length, s.length)]) = _
    unfold Go.Lx.bts
    rw [List.map_append]
    have := Go.Lx.Amt s 0
    unfold Go.Lx.bts at this
    rw [this]; rfl
  have hlen : (Go.Lx.bts (Go.Lx.Ga s)).length = s.length + 1 := by rw [hc]; simp
  obtain ⟨g1, g2⟩ := hx (s.length + 1) false (Nat.lt_succ_self _)
  refine w29 (n := 1) Ca (g29 ?_)
  unfold Ak5
  refine Bcm (Q := fun T : List Tok => T.map bare = Tl (s.length + 1) (s ++ [10]) false) (by omega) (by omega) ?_ ?_ fun h1 q t w T hQ hT x1 hq ha hb => ?_
  · rw [hlen, hc, Nat.add_sub_cancel, Uo (by simp), List.getElem_append_right (Nat.le_refl _)]; simp
  · rw [hc]
    exact Lx.all (by rw [List.length_append, List.length_singleton]; omega) (s.length + 1) 0 false [] g2 fun T' hT' => hT'
  · rw [Ic, Ib, Nh, Nl]
    refine Am rfl ?_
    refine Aeu Nat.one_pos ?_
    rw [Aj]
    refine Yw (o := 0 + 0 * 4 + 0) ha (by decide) ?_
    refine hk h1 _ T ?_ hT x1 ?_
    · rw [← g1, ← hQ, List.map_map, List.map_map]; rfl
    · rcases hb.rd' with ⟨e1, e2⟩ | hr
      · refine .inl ⟨e1, ?_⟩
        cases T with
        | nil => rfl
        | cons x T => exact absurd e2 (by simp)
      · refine .inr ?_
        rw [Aij]; exact hr
abbrev okT (t : Cb) : Prop := t.2.length ≤ 1000 ∧ t.1 ≠ 3
theorem Amj {h : H} {s : List UInt8} {k : KV} (he : Jk h) (hs0 : s ≠ []) (hl : s.length ≤ 900000) (hs10 : ∀ x ∈ s, x ≠ 10) (hq : Go.Lx.Hu s = true) {ts : List Cb} (hx : Lxs s ts) (htx : ∀ t ∈ ts, okT t)
    (hk : ∀ h', Exh h h' → k (Aqg (Hg ts)) h') : W1 (.func 29) [S s] h fun v27 h28 => W1 (.func 26) [v27] h28 k := by
  refine c29 hs0 hl hs10 hq hx fun h' v T hT hTl x r => ?_
  refine c26 r (by rw [List.length_map]; omega) (fun y hy => ?_) (he.keep x.1 x.2) fun h2 x2 => ?_
  · obtain ⟨z, hz, rfl⟩ := List.mem_map.1 hy
    have : tk (Au4 z) ∈ ts := by rw [← hT]; exact List.mem_map_of_mem (List.mem_map_of_mem hz)
    obtain ⟨h1, h2⟩ := htx _ this
    have h1 : z.text.length ≤ 1000 := h1
    have h2 : ((z.kind : Nat) : Int).toNat ≠ 3 := h2
    exact ⟨by show z.text.length ≤ _; omega, .inl rfl, by show ((z.kind : Nat) : Int) ≠ 3; omega⟩
  · rw [hT]; exact hk h2 (x.trans x2)
end Go.Den
