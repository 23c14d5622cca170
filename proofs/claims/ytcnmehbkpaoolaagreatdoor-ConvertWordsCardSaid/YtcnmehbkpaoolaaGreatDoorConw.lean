/-
 A part of the proof.
-/
import Derived.Test.YtcnmehbkpaoolaaGreatDoorConv
namespace Go.Den
open Go.RowKit
set_option maxRecDepth 100000
section
variable {h : H} {q : P} {K : AV → Prop} {x : Ef}
theorem AtP.kd (ha : AtP h q 0 x.cells) (hk : K (.int .i64 x.kind)) : Go.Den.ld1 (.ptr q (0 + 0)) h K := ha.ld1 (j := 0) (by show 0 < 8; decide) hk
theorem AtP.tx (ha : AtP h q 0 x.cells) (hk : K (S x.text)) : Go.Den.ld1 (.ptr q (0 + 1)) h K := ha.ld1 (j := 1) (by show 1 < 8; decide) hk
theorem AtP.sp (ha : AtP h q 0 x.cells) (hk : K (.agg [S x.file, .int .i64 x.f, .int .i64 x.t])) : Go.Den.ldn 3 (.ptr q (0 + 3)) h K := ha.A3y (j := 3) (by show 3 + 3 ≤ 8; decide) hk
theorem AtP.tok (ha : AtP h q 0 x.cells) (hk : K (.agg x.cells)) : Go.Den.ldn 8 (.ptr q 0) h K := ha.ldn rfl hk
end
theorem Abk (a : Int) (n : Nat) : Ba a (Int.ofNat n) = decide (a = (n : Int)) := by
 rw [Fi]; rfl
theorem Bf8 {h : H} (x : Ef) (t : List UInt8) {k : KV} (hk : ∀ h', Exh h h' → k (.bool (decide (x.kind = 5) && decide (x.text = t))) h') : W1 (.func 136) [.agg x.cells, S t] h k := by
 refine A9r (n := 1) Bj (Bj7 ?_)
 unfold Aef
 rw [Vr]
 refine Xd (by unfold Ef.cells; simp) (Ec ?_)
 have at1 : AtP (h.new (rowOf 43 x.cells)) h.next 0 x.cells := AtP.newRow
 have x1 : Exh h (h.new (rowOf 43 x.cells)) := .new
 generalize h.new (rowOf 43 x.cells) = h1 at at1 x1 ⊢
 rw [Ay]
 refine at1.kd ?_
 rw [Au]
 refine Lq (b := decide (x.text = t)) (fun k' hk' => ?_) ?_
 · rw [Ay]
   refine at1.tx ?_
   rw [Ce, Cq]; exact hk'
 rw [Abk]; exact hk h1 x1
theorem Mx {s t : List UInt8} {l c : Nat} (hl : t.length = l) (hc : enc t = c) : Bk s.length (enc s) l c = decide (s = t) := by
 subst hl hc; exact Cq
theorem A0r {h : H} {Q : (Bool → H → Prop) → Prop} {k : Bool → H → Prop} (hq : Q k) : Am (fun k1 => gate false false (Q k1) (k1 true h)) k := hq
theorem c119 {h : H} (x : Ef) {k : KV} (hk : ∀ h', Exh h h' → k (.bool (decide (x.kind = 5) && (decide (x.text = [35]) || decide (x.text = [37, 58])))) h') : W1 (.func 119) [.agg x.cells] h k := by
 refine A93 (n := 1) Bj (Bkj ?_)
 unfold Aex
 rw [Vr]
 refine Xd (by unfold Ef.cells; simp) (Ec ?_)
 have at1 : AtP (h.new (rowOf 43 x.cells)) h.next 0 x.cells := AtP.newRow
 have x1 : Exh h (h.new (rowOf 43 x.cells)) := .new
 generalize h.new (rowOf 43 x.cells) = h1 at at1 x1 ⊢
 rw [Ay]
 refine at1.kd ?_
 rw [Au]
 refine Lq (b := (decide (x.text = [35]) || decide (x.text = [37, 58]))) (fun k' hk' => ?_) ?_
 · rw [Ay]
   refine at1.tx ?_
   rw [Ce, Mx (t := [35]) (l := 1) (c := 35) rfl rfl]
   refine Ou (b := decide (x.text = [37, 58])) (fun k'' hk'' => ?_) hk'
   rw [Ay]
   refine at1.tx ?_
   rw [Ce, Mx (t := [37, 58]) (l := 2) (c := 14885) rfl rfl]; exact hk''
 rw [Abk]; exact hk h1 x1
theorem Bl2 {h : H} (x : Ef) {k : KV} (hk : ∀ h', Exh h h' → k (.bool (decide (x.kind = 5) && (decide (x.text = [35, 35]) || decide (x.text = [37, 58, 37, 58])))) h') : W1 (.func 120) [.agg x.cells] h k := by
 refine A92 (n := 1) Bj (Bki ?_)
 unfold Aew
 rw [Vr]
 refine Xd (by unfold Ef.cells; simp) (Ec ?_)
 have at1 : AtP (h.new (rowOf 43 x.cells)) h.next 0 x.cells := AtP.newRow
 have x1 : Exh h (h.new (rowOf 43 x.cells)) := .new
 have n1 : h.next.nat < (h.new (rowOf 43 x.cells)).next.nat := by rw [Bg]; omega
 generalize h.new (rowOf 43 x.cells) = h1 at at1 x1 n1 ⊢
 refine at1.tok ?_
 refine Bf8 x [35, 35] fun h2 x2 => ?_
 rw [Bv]
 by_cases e : (decide (x.kind = 5) && decide (x.text = [35, 35])) = true
 · rw [e]
   have e2 : (decide (x.kind = 5) && (decide (x.text = [35, 35]) || decide (x.text = [37, 58, 37, 58]))) = true := by
    simp only [Bool.and_eq_true, Bool.or_eq_true, decide_eq_true_eq] at e ⊢
    exact ⟨e.1, .inl e.2⟩
   have := hk h2 (x1.trans x2)
   rw [e2] at this; exact this
 · have e' : (decide (x.kind = 5) && decide (x.text = [35, 35])) = false := by simpa using e
   rw [e']
   refine A0r ((at1.ext x2 n1).tok ?_)
   refine Bf8 x [37, 58, 37, 58] fun h3 x3 => ?_
   rw [Bv]
   have e2 : (decide (x.kind = 5) && (decide (x.text = [35, 35]) || decide (x.text = [37, 58, 37, 58]))) = (decide (x.kind = 5) && decide (x.text = [37, 58, 37, 58])) := by
    by_cases a : x.kind = 5
    · rw [decide_eq_true a] at e' ⊢
      simp only [Bool.true_and] at e' ⊢
      rw [e', Bool.false_or]
    · rw [decide_eq_false a]; rfl
   have := hk h3 ((x1.trans x2).trans x3)
   rw [e2] at this; exact this
def Pe (s : List UInt8) : List UInt8 := (Ho s).getD []
theorem c67 {h : H} (x : Ef) (h5 : x.kind = 5) {k : KV} (hk : ∀ h', Exh h h' → k (S (Pe x.text)) h') : W1 (.func 67) [.agg x.cells] h k := by
 refine w67 (n := 1) Bj (g67 ?_)
 unfold Amn
 rw [Vr]
 refine Xd (by unfold Ef.cells; simp) (Ec ?_)
 have at1 : AtP (h.new (rowOf 43 x.cells)) h.next 0 x.cells := AtP.newRow
 have x1 : Exh h (h.new (rowOf 43 x.cells)) := .new
 have n1 : h.next.nat < (h.new (rowOf 43 x.cells)).next.nat := by rw [Bg]; omega
 generalize h.new (rowOf 43 x.cells) = h1 at at1 x1 n1 ⊢
 unfold Pe Ho at hk
 rw [Ay]
 refine at1.tx ?_
 rw [Ce, Mx (t := [60, 58]) (l := 2) (c := 14908) rfl rfl, Mx (t := [58, 62]) (l := 2) (c := 15930) rfl rfl, Mx (t := [60, 37]) (l := 2) (c := 9532) rfl rfl, Mx (t := [37, 62]) (l := 2) (c := 15909) rfl rfl]
 refine Bb (fun e => ?_) (fun e => ?_)
 · rw [if_pos (of_decide_eq_true e)] at hk; exact hk h1 x1
 rw [if_neg (of_decide_eq_false e)] at hk
 refine Bb (fun e => ?_) (fun e => ?_)
 · rw [if_pos (of_decide_eq_true e)] at hk; exact hk h1 x1
 rw [if_neg (of_decide_eq_false e)] at hk
 refine Bb (fun e => ?_) (fun e => ?_)
 · rw [if_pos (of_decide_eq_true e)] at hk; exact hk h1 x1
 rw [if_neg (of_decide_eq_false e)] at hk
 refine Bb (fun e => ?_) (fun e => ?_)
 · rw [if_pos (of_decide_eq_true e)] at hk; exact hk h1 x1
 rw [if_neg (of_decide_eq_false e)] at hk
 refine at1.tok ?_
 refine c119 x fun h2 x2 => ?_
 have x12 := x1.trans x2
 rw [Bv, decide_eq_true h5, Bool.true_and]
 have fin : ∀ h3, Exh h1 h3 → cnd (Wc x.text) (k (.str 0 0) h3) (Ap 1 (.ptr h.next 0) fun v19 => ld1 v19 h3 fun v20 => asS v20 fun l21 c22 => k (.str l21 c22) h3) := fun h3 x3 => by
  refine Bb (fun e => ?_) (fun e => ?_)
  · rw [if_pos e] at hk; exact hk h3 (x1.trans x3)
  · rw [if_neg (by rw [e]; decide)] at hk
    rw [Ay]
    refine (at1.ext x3 n1).tx ?_
    exact Ce.mpr (hk h3 (x1.trans x3))
 by_cases e : (decide (x.text = [35]) || decide (x.text = [37, 58])) = true
 · rw [e]
   have := fin h2 x2
   rw [show Wc x.text = true by unfold Wc; rw [e]; rfl] at this
   exact this
 · have e' : (decide (x.text = [35]) || decide (x.text = [37, 58])) = false := by simpa using e
   rw [e']
   refine A0r ((at1.ext x2 n1).tok ?_)
   refine Bl2 x fun h3 x3 => ?_
   rw [Bv, decide_eq_true h5, Bool.true_and]
   have := fin h3 (x2.trans x3)
   rw [show Wc x.text = (decide (x.text = [35, 35]) || decide (x.text = [37, 58, 37, 58])) by unfold Wc; rw [e', Bool.false_or]] at this
   exact this
theorem FrO.exh {B : P} {h h' : H} (x : Exh h h') : FrO B h h' := ⟨x.1, fun c hc _ => x.2 c hc⟩
theorem Aj1 (s : List UInt8) : (Ho s).isNone = (Co (Co (decide (Pe s = []))) && Co (decide (s = []))) := by
 unfold Pe
 cases e : Ho s with
 | none =>
  have : s ≠ [] := fun e' => by subst e'; exact absurd e (by decide)
  simp [Bq, this]
 | some u =>
  have : u = [] → s = [] := fun e' => by
   subst e'
   unfold Ho at e
   split at e
   · exact absurd e (by decide)
   · split at e
     · exact absurd e (by decide)
     · split at e
       · exact absurd e (by decide)
       · split at e
         · exact absurd e (by decide)
         · split at e
           · cases e
           · cases e; rfl
  simp only [Option.isNone_some, Option.getD_some, Bq, Bool.not_not]
  by_cases a : u = []
  · simp [a, this a]
  · simp [a]
def Aik (p : Option (Nat × List UInt8)) : AV := match p with
 | none => .tuple [.int .i64 (.ofNat 0), .str 0 0]
 | some p => .tuple [.int .i64 (.ofNat p.1), .str p.2.length (enc p.2)]
theorem A3g (o : Option (Nat × Bool)) : ∃ a b, Afm o = .tuple [.agg [.int .u64 a, .bool b], .bool o.isSome] := by
 cases o with
 | none => exact ⟨_, _, rfl⟩
 | some p => exact ⟨_, _, rfl⟩
theorem Azz (o : Option (Int × Bool)) : ∃ a b, Avh o = .tuple [.agg [.int .u64 a, .bool b], .bool o.isSome] := by
 cases o with
 | none => exact ⟨_, _, rfl⟩
 | some p => exact ⟨_, _, rfl⟩
theorem c35 {Y : AV → Prop} {lo : Nat} {B : P} {vL : AV} {O : List CT} {D : List DT} {h : H} (x : Ef) (hx : x.text.length ≤ 1000000) (he : Kl h) (m : Mk Y lo B vL O D h) (hL : Sl vL) (hlo : 13 ≤ lo) {k : KV} (hk : ∀ h', Mk Y lo B vL O D h' → FrO B h h' → k (Aik (Gv x)) h') : W1 (.func 35) [.ptr B 0, .agg x.cells] h k := by
 refine w35 (n := 1) Bj (g35 ?_)
 unfold Am6
 rw [Vr]
 refine Xd (by unfold Ef.cells; simp) (Ec ?_)
 have at1 : AtP (h.new (rowOf 43 x.cells)) h.next 0 x.cells := AtP.newRow
 have x1 : Exh h (h.new (rowOf 43 x.cells)) := .new
 have n1 : h.next.nat < (h.new (rowOf 43 x.cells)).next.nat := by rw [Bg]; omega
 have he1 : Kl (h.new (rowOf 43 x.cells)) := he.new
 generalize h.new (rowOf 43 x.cells) = h1 at at1 x1 n1 he1 ⊢
 have m1 := m.ext x1
 have hm := m
 obtain ⟨tb, y2, y3, W, a1, a2, a3, _⟩ := hm
 unfold Gv at hk
 rw [Ay]
 refine at1.kd ?_
 rw [Au, Abk, Abk, Abk, Abk]
 have hne : h.next ≠ B := fun e => by rw [← e] at a2; omega
 refine Bb (fun e => ?_) (fun e => ?_)
 · rw [if_pos (show x.kind = 1 from of_decide_eq_true e)] at hk
   rw [Bi, Ae, Hj, Ay]
   refine at1.tx ?_
   rw [Ce]
   refine Blf x.text he1 m1 hL (by omega) fun h2 m2 f2 => ?_
   have at2 : AtP h2 h.next 0 x.cells := at1.frame (f2.2 _ n1 hne)
   have fr : FrO B h h2 := ⟨Nat.le_trans x1.1 f2.1, fun c hc hcB => by rw [f2.2 c (Nat.lt_of_lt_of_le hc x1.1) hcB, x1.2 c hc]⟩
   rw [Bv]
   refine Bb (fun e2 => ?_) (fun e2 => ?_)
   · rw [if_pos (of_decide_eq_true e2)] at hk
     rw [Ay]
     refine at2.tx ?_
     exact Ce.mpr (hk h2 m2 fr)
   · rw [if_neg (of_decide_eq_false e2)] at hk
     rw [Ay]
     refine at2.tx ?_
     exact Ce.mpr (hk h2 m2 fr)
 rw [if_neg (show ¬ x.kind = 1 from of_decide_eq_false e)] at hk
 refine Bb (fun e => ?_) (fun e => ?_)
 · rw [if_pos (show x.kind = 2 from of_decide_eq_true e)] at hk
   rw [Ay]
   refine at1.tx ?_
   rw [Ce]
   obtain ⟨na, nb, hnv⟩ := A3g (Apn x.text)
   refine Wa (c64 x.text (by omega)) rfl (by rw [hnv]; rfl) he1 ?_
   rw [hnv, Ed, Ek, Bv]
   refine Ec ?_
   refine Afo (e := 55) (zs := [(.int .u64 (Int.ofNat 0)), (.bool false)]) rfl rfl (by decide) fun h2 x2 _ _ => ?_
   have at2 := at1.ext x2 n1
   have m2 := m1.ext x2
   have fr : FrO B h h2 := FrO.exh (x1.trans x2)
   refine Bb (fun e2 => ?_) (fun e2 => ?_)
   · rw [if_pos e2] at hk
     rw [Ay]
     refine at2.tx ?_
     exact Ce.mpr (hk h2 m2 fr)
   · rw [if_neg (by rw [e2]; decide)] at hk
     rw [Ay]
     refine at2.tx ?_
     rw [Ce]
     refine Dn (c65 x.text (by omega)) ?_
     rw [Bv]
     refine Bb (fun e3 => ?_) (fun e3 => ?_)
     · rw [if_pos e3] at hk
       rw [Ay]
       refine at2.tx ?_
       exact Ce.mpr (hk h2 m2 fr)
     · rw [if_neg (by rw [e3]; decide)] at hk
       exact hk h2 m2 fr
 rw [if_neg (show ¬ x.kind = 2 from of_decide_eq_false e)] at hk
 refine Bb (fun e => ?_) (fun e => ?_)
 · rw [if_pos (show x.kind = 3 from of_decide_eq_true e)] at hk
   rw [Ay]
   refine at1.tx ?_
   rw [Ce]
   obtain ⟨na, nb, hnv⟩ := Azz (Vi x.text)
   refine Dn (c66 x.text (by omega)) ?_ rfl (by rw [hnv]; rfl)
   rw [hnv, Ed, Ek, Bv]
   refine Ec ?_
   refine Afo (e := 55) (zs := [(.int .u64 (Int.ofNat 0)), (.bool false)]) rfl rfl (by decide) fun h2 x2 _ _ => ?_
   have at2 := at1.ext x2 n1
   have m2 := m1.ext x2
   have fr : FrO B h h2 := FrO.exh (x1.trans x2)
   refine Bb (fun e2 => ?_) (fun e2 => ?_)
   · rw [if_pos e2] at hk
     rw [Ay]
     refine at2.tx ?_
     exact Ce.mpr (hk h2 m2 fr)
   · rw [if_neg (by rw [e2]; decide)] at hk
     exact hk h2 m2 fr
 rw [if_neg (show ¬ x.kind = 3 from of_decide_eq_false e)] at hk
 refine Bb (fun e => ?_) (fun e => ?_)
 · rw [if_pos (show x.kind = 5 from of_decide_eq_true e)] at hk
   refine at1.tok ?_
   refine c67 x (of_decide_eq_true e) fun h2 x2 => ?_
   have at2 := at1.ext x2 n1
   have m2 := m1.ext x2
   have fr : FrO B h h2 := FrO.exh (x1.trans x2)
   rw [Ce]
   have hn := Aj1 x.text
   refine Ou (b := decide (x.text = [])) (fun k' hk' => ?_) ?_
   · rw [Ay]
     refine at2.tx ?_
     rw [Ce, Fk]; exact hk'
   rw [Fk]
   have hu : Ho x.text = none ∨ Ho x.text = some (Pe x.text) := by
    unfold Pe
    cases Ho x.text with
    | none => exact .inl rfl
    | some u => exact .inr rfl
   rcases hu with hu | hu
   · rw [hu] at hk hn
     refine Bl ?_ (hk h2 m2 fr)
     revert hn
     cases decide (Pe x.text = []) <;> cases decide (x.text = []) <;> simp [Bq]
   · rw [hu] at hk hn
     refine Cd ?_ (hk h2 m2 fr)
     revert hn
     cases decide (Pe x.text = []) <;> cases decide (x.text = []) <;> simp [Bq]
 · rw [if_neg (show ¬ x.kind = 5 from of_decide_eq_false e)] at hk
   exact hk h1 m1 (FrO.exh x1)
end Go.Den
