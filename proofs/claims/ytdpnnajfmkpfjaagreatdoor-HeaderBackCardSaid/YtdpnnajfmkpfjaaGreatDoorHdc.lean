/-
  A part of the proof: names, and their texts' tokens.
-/
import Derived.Test.YtdpnnajfmkpfjaaGreatDoorHdb
namespace Go.Den
open Go.RowKit
set_option maxRecDepth 100000
structure Nm (s : List UInt8) : Prop where
  ne : s ≠ []
  le : s.length ≤ 60
  chars : ∀ x ∈ s, nameC x = true
  slash : ∀ j (hj : j < s.length), s[j] = 47 → ∃ h2 : j + 1 < s.length, s[j + 1] ≠ 47
  last : ∀ x, s.getLast? = some x → x ≠ 45
theorem name_ok {x : UInt8} (h : nameC x = true) : x ≠ 63 ∧ x ≠ 92 ∧ x ≠ 10 ∧ x ≠ 34 ∧ x ≠ 42 := by
  have := all8 (P := fun x => !(nameC x) || (x != 63 && x != 92 && x != 10 && x != 34 && x != 42)) (by kernel_rfl) x
  rw [h] at this
  simp only [Bool.not_true, Bool.false_or, Bool.and_eq_true, bne_iff_ne] at this
  exact ⟨this.1.1.1.1, this.1.1.1.2, this.1.1.2, this.1.2, this.2⟩
theorem joinN62 {x : UInt8} (h : nameC x = true) (h2 : x ≠ 45) : joinOk x 62 = true := by
  have := all8 (P := fun x => !(nameC x) || x == 45 || joinOk x 62) (by kernel_rfl) x
  rw [h, show (x == 45) = false from beq_eq_false_iff_ne.2 h2] at this
  exact this
theorem join60N {x : UInt8} (h : nameC x = true) : joinOk 60 x = true := by
  have := all8 (P := fun x => !(nameC x) || joinOk 60 x) (by kernel_rfl) x
  rw [h] at this; exact this
theorem join45D {x : UInt8} (h : isDigit x = true) : joinOk 45 x = true := by
  have := all8 (P := fun x => !(isDigit x) || joinOk 45 x) (by kernel_rfl) x
  rw [h] at this; exact this
theorem Nm.wd {s : List UInt8} (h : Nm s) : Wd s 62 := by
  refine ⟨h.ne, h.chars, stop62, fun x hx => joinN62 (h.chars x (List.mem_of_getLast? hx)) (h.last x hx), fun j hj e => ?_⟩
  obtain ⟨h2, h3⟩ := h.slash j hj e
  rw [bt_left h2]
  exact ⟨h3, (name_ok (h.chars _ (List.getElem_mem h2))).2.2.2.2⟩
theorem Nm.ok {s : List UInt8} (h : Nm s) : ∀ x ∈ s, x ≠ 63 ∧ x ≠ 92 ∧ x ≠ 10 ∧ x ≠ 34 := fun x hx => by
  obtain ⟨a, b, c, d, _⟩ := name_ok (h.chars x hx)
  exact ⟨a, b, c, d⟩
theorem Nm.hd {s : List UInt8} (h : Nm s) : ∃ c s', s = c :: s' ∧ nameC c = true := by
  cases s with
  | nil => exact absurd rfl h.ne
  | cons c s => exact ⟨c, s, rfl, h.chars c List.mem_cons_self⟩
theorem lexN {s : List UInt8} (hs : Nm s) : Lx (tA s ++ [10]) (QA s) 0 false [] := by
  obtain ⟨c, s', e, hc⟩ := hs.hd
  have hls := hs.le
  have e1 : tA s ++ [10] = [] ++ 60 :: c :: (s' ++ [62, 10]) := by rw [e]; simp [tA]
  have e2 : tA s ++ [10] = [60] ++ (s ++ 62 :: [10]) := by simp [tA]
  have e3 : tA s ++ [10] = (60 :: s) ++ 62 :: 10 :: [] := by simp [tA]
  have hl : (tA s ++ [10]).length ≤ 1000000 := by rw [e2]; simp; omega
  rw [e1] at hl ⊢
  refine Lx.angle hl (.inl rfl) (join60N hc) fun f t => ?_
  rw [← e1] at hl ⊢
  rw [e2] at hl ⊢
  refine Lx.word (A := [60]) hl hs.wd fun T' h1 h2 => ?_
  rw [← e2] at hl ⊢
  have h3 : ([60] : List UInt8).length + s.length = (60 :: s).length := by simp; omega
  rw [h3, e3] at *
  refine Lx.angle hl (.inr rfl) (by decide) fun f' t' => ?_
  have h4 : (60 :: s).length + 1 = (60 :: s ++ 62 :: 10 :: []).length - 1 := by simp
  rw [h4]
  exact Lx.ends ⟨⟨5, [60], false, f, t⟩, T', ⟨5, [62], false, f', t'⟩, by simp, rfl, rfl, rfl, rfl, h2⟩
/-- something behind the name -/
def tX (s : List UInt8) : List UInt8 := 60 :: (s ++ [62, 32, 120])
def QX (T : List Tok) : Prop := ∃ t0 Tm tn, T = t0 :: (Tm ++ [tn]) ∧ tn.text ≠ [62]
theorem wdx : Wd [120] 10 := ⟨by decide, by decide, by decide, fun x h => by cases h; decide, fun j hj h => by
  have : j = 0 := by simpa using hj
  subst this
  exact absurd (show (120 : UInt8) = 47 from h) (by decide)⟩
theorem lexX {s : List UInt8} (hs : Nm s) : Lx (tX s ++ [10]) QX 0 false [] := by
  obtain ⟨c, s', e, hc⟩ := hs.hd
  have hls := hs.le
  have e1 : tX s ++ [10] = [] ++ 60 :: c :: (s' ++ [62, 32, 120, 10]) := by rw [e]; simp [tX]
  have e2 : tX s ++ [10] = [60] ++ (s ++ 62 :: [32, 120, 10]) := by simp [tX]
  have e3 : tX s ++ [10] = (60 :: s) ++ 62 :: 32 :: [120, 10] := by simp [tX]
  have e4 : tX s ++ [10] = (60 :: (s ++ [62])) ++ 32 :: [120, 10] := by simp [tX]
  have e5 : tX s ++ [10] = (60 :: (s ++ [62, 32])) ++ ([120] ++ 10 :: []) := by simp [tX]
  have hlen : (tX s ++ [10]).length = s.length + 5 := by rw [e2]; simp
  have hl : (tX s ++ [10]).length ≤ 1000000 := by omega
  rw [e1] at hl ⊢
  refine Lx.angle hl (.inl rfl) (join60N hc) fun f t => ?_
  rw [← e1] at hl ⊢
  rw [e2] at hl ⊢
  refine Lx.word (A := [60]) hl hs.wd fun T1 h1 h2 => ?_
  rw [← e2] at hl ⊢
  have h3 : ([60] : List UInt8).length + s.length = (60 :: s).length := by simp; omega
  rw [h3]
  rw [e3] at hl ⊢
  refine Lx.angle hl (.inr rfl) (by decide) fun f' t' => ?_
  rw [← e3] at hl ⊢
  have h4 : (60 :: s).length + 1 = (60 :: (s ++ [62])).length := by simp
  rw [h4]
  rw [e4] at hl ⊢
  refine Lx.blank ?_
  rw [← e4] at hl ⊢
  have h5 : (60 :: (s ++ [62])).length + 1 = (60 :: (s ++ [62, 32])).length := by simp
  rw [h5]
  rw [e5] at hl ⊢
  refine Lx.word hl wdx fun T2 h6 h7 => ?_
  rw [← e5] at hl ⊢
  have h8 : (60 :: (s ++ [62, 32])).length + ([120] : List UInt8).length = (tX s ++ [10]).length - 1 := by rw [hlen]; simp
  rw [h8]
  rcases List.eq_nil_or_concat T2 with rfl | ⟨Ti, tn, rfl⟩
  · exact absurd rfl h6
  rw [List.concat_eq_append] at h7 ⊢
  refine Lx.ends ⟨⟨5, [60], false, f, t⟩, T1 ++ [⟨5, [62], false, f', t'⟩] ++ Ti, tn, by simp, fun e => ?_⟩
  have hm : (62 : UInt8) ∈ txt (Ti ++ [tn]) := by
    rw [txt_app, List.mem_append]
    right
    unfold txt
    rw [List.flatMap_cons, List.flatMap_nil, List.append_nil, List.mem_append]
    right
    rw [e]; exact List.mem_cons_self
  rw [h7] at hm
  exact absurd hm (by decide)
/-- letters ahead of the quotes -/
def tL (s : List UInt8) : List UInt8 := 76 :: 34 :: (s ++ [34])
def QL (s : List UInt8) (T : List Tok) : Prop := ∃ x, T = [x] ∧ x.kind = 4 ∧ x.text = 76 :: 34 :: (s ++ [34])
theorem lexL {s : List UInt8} (hok : ∀ x ∈ s, x ≠ 63 ∧ x ≠ 92 ∧ x ≠ 10 ∧ x ≠ 34) : Lx (tL s ++ [10]) (QL s) 0 false [] := by
  have e : tL s ++ [10] = 76 :: 34 :: (s ++ 34 :: [10]) := by simp [tL]
  have hb : ∀ x, 1 < x → x < s.length + 2 → bt (tL s ++ [10]) x ∈ s := fun x h1 h2 => by
    rw [e]
    have : bt (76 :: 34 :: (s ++ 34 :: [10])) x = bt (s ++ 34 :: [10]) (x - 2) := by
      have := bt_app [76, 34] (s ++ 34 :: [10]) (x - 2)
      rw [show ([76, 34] : List UInt8).length + (x - 2) = x by show 2 + (x - 2) = x; omega] at this
      exact this
    rw [this, bt_left (by omega)]
    exact List.getElem_mem _
  have hq : bt (tL s ++ [10]) (s.length + 2) = 34 := by
    rw [e]
    exact bt_app (76 :: 34 :: s) (34 :: [10]) 0
  have hlen : (tL s ++ [10]).length = s.length + 4 := by rw [e]; simp
  have h0 : bt (tL s ++ [10]) 0 = 76 := rfl
  have h1 : bt (tL s ++ [10]) 1 = 34 := rfl
  refine Lx.q (i := 0) (a := 1) (m := s.length + 2) (by omega) (by omega) ?_ (by rw [h0]; decide) (by rw [h0]; decide) (by rw [h0]; decide) h1 hq (fun x h1 h2 => ?_) fun f t => ?_
  · unfold lettersV; rw [h0, show bt (tL s ++ [10]) (0 + 1) = 34 from h1]; rfl
  · have := hok _ (hb x (by omega) (by omega))
    exact ⟨this.2.2.2, this.2.2.1, this.2.1⟩
  · have h4 : s.length + 2 + 1 = (tL s ++ [10]).length - 1 := by rw [hlen]; omega
    rw [h4]
    refine Lx.ends ⟨_, rfl, rfl, ?_⟩
    rw [hlen, List.drop_zero, e]
    show 76 :: 34 :: List.take (s.length + 1) (s ++ 34 :: [10]) = 76 :: 34 :: (s ++ [34])
    rw [show s ++ 34 :: [10] = (s ++ [34]) ++ [10] by simp, List.take_left']; simp
/-- a number and a name -/
def tD (d s : List UInt8) : List UInt8 := d ++ 32 :: 34 :: (s ++ [34])
theorem dec_digit {x : UInt8} (h : x ∈ decL) : isDigit x = true := (show ∀ x ∈ decL, isDigit x = true by decide) x h
theorem lexD {A ds s : List UInt8} {Q : List Tok → Prop} {b : Bool} {T : List Tok} (hd : ∀ x ∈ ds, x ∈ decL) (hne : ds ≠ []) (hok : ∀ x ∈ s, x ≠ 63 ∧ x ≠ 92 ∧ x ≠ 10 ∧ x ≠ 34)
    (hk : ∀ f t f' t', Q (T ++ [⟨2, ds, b, f, t⟩, ⟨4, 34 :: (s ++ [34]), true, f', t'⟩])) : Lx (A ++ (tD ds s ++ [10])) Q A.length b T := by
  have hpos : 0 < ds.length := List.length_pos_iff.2 hne
  have e1 : A ++ (tD ds s ++ [10]) = A ++ (ds ++ 32 :: 34 :: (s ++ 34 :: [10])) := by simp [tD]
  have e2 : A ++ (tD ds s ++ [10]) = (A ++ ds) ++ 32 :: (34 :: (s ++ 34 :: [10])) := by simp [tD]
  have e3 : A ++ (tD ds s ++ [10]) = (A ++ ds ++ [32]) ++ 34 :: (s ++ 34 :: [10]) := by simp [tD]
  have hlen : (A ++ (tD ds s ++ [10])).length = A.length + ds.length + s.length + 4 := by rw [e1]; simp; omega
  have b1 : ∀ x, A.length ≤ x → (h : x < A.length + ds.length) → bt (A ++ (tD ds s ++ [10])) x = ds[x - A.length]'(by omega) := fun x h1 h2 => by
    rw [e1]
    have := bt_app A (ds ++ 32 :: 34 :: (s ++ 34 :: [10])) (x - A.length)
    rw [show A.length + (x - A.length) = x by omega] at this
    rw [this, bt_left]
  have b2 : bt (A ++ (tD ds s ++ [10])) (A.length + ds.length) = 32 := by
    rw [e2, ← List.length_append, bt_0]
  refine Lx.d (i := A.length) (m := A.length + ds.length) (by omega) (by omega) (fun x h1 h2 => ?_) (by rw [b2]; decide) fun f t => ?_
  · rw [b1 x h1 h2]; exact dec_digit (hd _ (List.getElem_mem _))
  have ed : ((A ++ (tD ds s ++ [10])).drop A.length).take (A.length + ds.length - A.length) = ds := by
    rw [e1, List.drop_left' rfl, show A.length + ds.length - A.length = ds.length by omega, List.take_left' rfl]
  rw [ed, ← List.length_append]
  have hB : ∀ Q' : List UInt8 → Prop, Q' ((A ++ ds) ++ 32 :: (34 :: (s ++ 34 :: [10]))) → Q' (A ++ (tD ds s ++ [10])) := fun Q' h => by rw [e2]; exact h
  refine hB (fun B => Lx B Q (A ++ ds).length false (T ++ [⟨2, ds, b, f, t⟩])) ?_
  refine Lx.blank ?_
  rw [← e2]
  have b3 : ∀ j, bt (A ++ (tD ds s ++ [10])) (A.length + ds.length + 1 + j) = bt (34 :: (s ++ 34 :: [10])) j := fun j => by
    rw [e3]
    have := bt_app (A ++ ds ++ [32]) (34 :: (s ++ 34 :: [10])) j
    rw [List.length_append, List.length_append] at this
    exact this
  have b4 : bt (A ++ (tD ds s ++ [10])) (A.length + ds.length + 1) = 34 := b3 0
  have b5 : bt (A ++ (tD ds s ++ [10])) (A.length + ds.length + 1 + (s.length + 1)) = 34 := by
    rw [b3]
    exact bt_app (34 :: s) (34 :: [10]) 0
  have b6 : ∀ x, A.length + ds.length + 1 < x → x < A.length + ds.length + 1 + (s.length + 1) → bt (A ++ (tD ds s ++ [10])) x ∈ s := fun x h1 h2 => by
    have := b3 (x - (A.length + ds.length + 1))
    rw [show A.length + ds.length + 1 + (x - (A.length + ds.length + 1)) = x by omega] at this
    rw [this]
    have h3 := bt_app [34] (s ++ 34 :: [10]) (x - (A.length + ds.length + 1) - 1)
    rw [show ([34] : List UInt8).length + (x - (A.length + ds.length + 1) - 1) = x - (A.length + ds.length + 1) by show 1 + _ = _; omega] at h3
    rw [show (34 :: (s ++ 34 :: [10])) = [34] ++ (s ++ 34 :: [10]) from rfl, h3, bt_left (by omega)]
    exact List.getElem_mem _
  rw [List.length_append]
  refine Lx.q (a := 0) (m := A.length + ds.length + 1 + (s.length + 1)) (by omega) (by omega) ?_ (by rw [b4]; decide) (by rw [b4]; decide) (by rw [b4]; decide) b4 b5 (fun x h1 h2 => ?_) fun f' t' => ?_
  · unfold lettersV; rw [b4]; rfl
  · have := hok _ (b6 x (by omega) h2)
    exact ⟨this.2.2.2, this.2.2.1, this.2.1⟩
  · have h4 : A.length + ds.length + 1 + (s.length + 1) + 1 = (A ++ (tD ds s ++ [10])).length - 1 := by rw [hlen]; omega
    have h5 : ((A ++ (tD ds s ++ [10])).drop (A.length + ds.length + 1)).take (A.length + ds.length + 1 + (s.length + 1) + 1 - (A.length + ds.length + 1)) = 34 :: (s ++ [34]) := by
      rw [e3, List.drop_left' (by rw [List.length_append, List.length_append]; rfl), show A.length + ds.length + 1 + (s.length + 1) + 1 - (A.length + ds.length + 1) = (34 :: (s ++ [34])).length by simp; omega]
      rw [show 34 :: (s ++ 34 :: [10]) = (34 :: (s ++ [34])) ++ [10] by simp, List.take_left' rfl]
    rw [h5, h4, List.append_assoc]
    exact Lx.ends (hk f t f' t')
theorem c28_s {h : H} {v : AV} {B : List UInt8} {i : Nat} {k : KV} (hr : Rs h v B) (hi : i < 1000000) (f1 : lettersV B i = Int.negSucc 0) (f2 : isLetter (bt B i) = false) (f3 : isDigit (bt B i) = false) (f4 : bt B i ≠ 46) (f5 : [bt B i] ∈ puncts) (hj : joinOk (bt B i) (bt B (i + 1)) = true) (hk : ∀ h', Exh h h' → k (.tuple [.int .i64 (Int.ofNat 5), .int .i64 (Int.ofNat (i + 1)), .bool false]) h') : W1 (.func 28) [v, .int .i64 (Int.ofNat i)] h k := by
  refine w28 (n := 4) sw_ok (g28 ?_)
  unfold s28_0
  refine c41 hr (by omega) ?_
  rw [asI_k, f1, negS]
  refine cnd_f rfl ?_
  refine j28_2 ?_
  unfold s28_2
  refine c40 hr ?_
  unfold ub
  rw [asI_k]
  refine use2 (c43 _) ?_
  rw [asB_b, f2]
  refine cnd_f rfl ?_
  refine c45_no hr (by omega) f3 f4 ?_
  rw [asI_k, ilt, decide_eq_false (Nat.lt_irrefl i)]
  refine cnd_f rfl ?_
  refine c46 hr (by omega) fun h' hx => ?_
  rw [one_punct hj f5, asI_k]
  refine cnd_t rfl ?_
  rw [iaddN, wrapN (by omega), fI_eq]
  exact hk h' hx
/-- a sign ahead of digits -/
theorem lexM {x : UInt8} {R : List UInt8} {Q : List Tok → Prop} (hl : (45 :: x :: R).length ≤ 1000000) (hx : isDigit x = true) (hk : ∀ f t, Lx (45 :: x :: R) Q 1 false [⟨5, [45], false, f, t⟩]) : Lx (45 :: x :: R) Q 0 false [] := by
  have e0 : bt (45 :: x :: R) 0 = 45 := rfl
  have e1 : bt (45 :: x :: R) 1 = x := rfl
  refine Lx.tok (C := fun kd e => kd = 5 ∧ e = 1) (by simp) (by show (45 : UInt8) ≠ 10; decide) (by show isWhite 45 = false; decide) (.inl (by rw [e0]; decide)) (fun h vr k hr hl' hk' => ?_) (fun kd e h => by obtain ⟨_, rfl⟩ := h; simp) (fun kd e f t h => ?_)
  · refine c28_s hr (by decide) ?_ (by rw [e0]; decide) (by rw [e0]; decide) (by rw [e0]; decide) (by rw [e0]; decide) (by rw [e0, e1]; exact join45D hx) fun h' hx' => hk' 5 1 h' ⟨rfl, rfl⟩ hx'
    unfold lettersV; rw [e0]; rfl
  · obtain ⟨rfl, rfl⟩ := h
    exact hk f t
end Go.Den
