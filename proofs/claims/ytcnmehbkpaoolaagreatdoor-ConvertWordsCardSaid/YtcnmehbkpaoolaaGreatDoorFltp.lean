/-
 A part of the proof.
-/
import Derived.Test.YtcnmehbkpaoolaaGreatDoorByts
import Derived.KernelRfl
namespace Go.Den
open Go.RowKit
set_option maxRecDepth 100000
theorem Bf9 (s : List UInt8) : Pure PP G h0 114 [S s] (.bool (Nq s)) := by
 refine A98 (n := 1) Bj (Bko ?_)
 unfold Ae2
 refine Dn (Az7 s hx1) ?_
 rw [Bv]
 refine Ua (fun e => Dn (Az7 s hx2) ?_) (fun e => ?_)
 · show AV.bool _ = AV.bool _
   unfold Nq
   have e : decide (s.take 2 = hx1) = false := e
   rw [e]; rfl
 · show AV.bool _ = AV.bool _
   unfold Nq
   have e : decide (s.take 2 = hx1) = true := e
   rw [e]; rfl
end Go.Den
namespace Go.Den
open Go.RowKit
set_option maxRecDepth 100000
theorem Alo {s q : List UInt8} {k : KV} {n : Nat} (hl : q.length ≤ 4611686018427387904)
 (hk : k (.tuple [if Cg q Hg = 0 then S s else S (q.drop (Cg q Hg)), .bool (decide (Cg q Hg ≠ 0))]) h0) : (Abe W1 k (n + 1)).a1 s.length (enc s) q.length (enc q) h0 := by
 refine A4n ?_
 unfold Aey
 refine Dn (Aqi Alb (by decide) q hl) ?_
 rw [Au]
 refine Bb (fun e => ?_) (fun e => ?_)
 · rw [Fi, beq_iff_eq] at e
   have e : Cg q Hg = 0 := Int.ofNat.inj e
   rw [e] at hk
   exact hk
 · have e : ¬ Cg q Hg = 0 := fun h => by rw [h] at e; simp [Fi] at e
   rw [As]
   refine Fq (Lh _ _) ?_
   rw [if_neg e, decide_eq_true (show Cg q Hg ≠ 0 from e)] at hk
   exact hk
theorem A8g (s L : List UInt8) (hl : s.length ≤ 4611686018427387904) : Pure PP G h0 118 [S s, S L] (.tuple [S (Qb s L).1, .bool (Qb s L).2]) := by
 refine A94 (n := 2) Bj (Bkk ?_)
 unfold Aez
 cases s with
 | nil =>
  refine Ua (fun e => ?_) (fun _ => ?_)
  · cases e
  · exact Cd rfl rfl
 | cons x r =>
  have e0 : Bk (x :: r).length (enc (x :: r)) 0 0 = false := To (t := []) (by simp)
  refine Ua (fun _ => ?_) (fun e => by rw [e0] at e; cases e)
  refine Ch (Nat.zero_lt_succ _) ?_
  refine Dn (A8a L x) ?_
  rw [Au, Fh]
  refine Bb (fun e => ?_) (fun e => ?_)
  · have e : x ∉ L := (Zm L x).1 (of_decide_eq_true e)
    have := Ai0 e r
    rw [this]
  · have e : x ∈ L := by
     by_cases h : x ∈ L
     · exact h
     · exact absurd ((Zm L x).2 h) (of_decide_eq_false e)
    have he : Qb (x :: r) L = (if Cg (Oq r) Hg = 0 then (x :: r, false) else ((Oq r).drop (Cg (Oq r) Hg), true)) := Azm e r
    have fin : ((fun v (_ : H) => v = AV.tuple [S (Qb (x :: r) L).1, .bool (Qb (x :: r) L).2]) : KV) (.tuple [if Cg (Oq r) Hg = 0 then S (x :: r) else S ((Oq r).drop (Cg (Oq r) Hg)), .bool (decide (Cg (Oq r) Hg ≠ 0))]) h0 := by
     show AV.tuple _ = _
     rw [he]
     by_cases h : Cg (Oq r) Hg = 0 <;> simp [h]
    have hr : (Oq r).length ≤ 4611686018427387904 := Nat.le_trans (Aq6 r) (by simp at hl; omega)
    refine Fq (s := x :: r) (Nat.le_add_left 1 _) ?_
    show Am _ _
    cases r with
    | nil =>
     refine Gq (fun e => ?_) (fun _ => ?_)
     · cases e
     · exact Bl rfl (Alo (q := []) hr fin)
    | cons c r =>
     have e1 : Co (Bk (c :: r).length (enc (c :: r)) 0 0) = true := by rw [Kr]; rfl
     refine Gq (fun _ => ?_) (fun e => Bool.noConfusion (e1.symm.trans e))
     refine Ch (s := c :: r) (Nat.zero_lt_succ _) ?_
     rw [toNat_eq _ 43 (by decide)]
     have key : ∀ b : Bool, b = decide (c = 43 ∨ c = 45) → cnd b (Gc (c :: r).length (enc (c :: r)) 1 (c :: r).length fun l c' => (Abe W1 (fun v _ => v = .tuple [S (Qb (x :: c :: r) L).1, .bool (Qb (x :: c :: r) L).2]) 1).a1 (x :: c :: r).length (enc (x :: c :: r)) l c' h0)
      ((Abe W1 (fun v _ => v = .tuple [S (Qb (x :: c :: r) L).1, .bool (Qb (x :: c :: r) L).2]) 1).a1 (x :: c :: r).length (enc (x :: c :: r)) (c :: r).length (enc (c :: r)) h0) := by
      intro b hb
      refine Bb (fun e => ?_) (fun e => ?_)
      · have e : c = 43 ∨ c = 45 := of_decide_eq_true (hb ▸ e)
        have hu : Oq (c :: r) = r := if_pos e
        rw [hu] at fin hr
        exact Fq (s := c :: r) (Nat.le_add_left 1 _) (Alo (q := r) hr fin)
      · have e : ¬ (c = 43 ∨ c = 45) := of_decide_eq_false (hb ▸ e)
        have hu : Oq (c :: r) = c :: r := if_neg e
        rw [hu] at fin hr
        exact Alo (q := c :: r) hr fin
     refine Ua (fun e => ?_) (fun e => ?_)
     · refine Ch (s := c :: r) (Nat.zero_lt_succ _) ?_
       rw [toNat_eq _ 45 (by decide)]
       have e : ¬ c = 43 := of_decide_eq_false e
       exact key _ (by simp only [List.getElem_cons_zero]; congr 1; simp [e])
     · have e : c = 43 := of_decide_eq_true e
       exact key _ (by simp [e])
end Go.Den
namespace Go.Den
open Go.RowKit
set_option maxRecDepth 100000
def Arb (r : List UInt8) : Bool := decide (r = []) || decide (r = [102]) || decide (r = [70]) || decide (r = [108]) || decide (r = [76])
def Aiz (some L : List UInt8) (n : Nat) (point : Bool) (r : List UInt8) : Bool :=
 if decide (n = 0) || (!(Qb r L).2 && (!point || decide (some = Ge))) then false else Arb (Qb r L).1
def Qa (some L rest : List UInt8) : Bool :=
 if (rest.drop (Cg rest some)).take 1 = [46] then Aiz some L (Cg rest some + Cg ((rest.drop (Cg rest some)).drop 1) some) true ((rest.drop (Cg rest some)).drop (1 + Cg ((rest.drop (Cg rest some)).drop 1) some))
 else Aiz some L (Cg rest some) false (rest.drop (Cg rest some))
def eL : List UInt8 := [101, 69]
def pL : List UInt8 := [112, 80]
def We (s : List UInt8) : Bool := if Nq s then Qa Ge pL (s.drop 2) else Qa Hg eL s
theorem Bd5 (s : List UInt8) : Bk s.length (enc s) 1 102 = decide (s = [102]) := Cq (t := [102])
theorem Bk4 (s : List UInt8) : Bk s.length (enc s) 1 70 = decide (s = [70]) := Cq (t := [70])
theorem A08 (s : List UInt8) : Bk s.length (enc s) 1 108 = decide (s = [108]) := Cq (t := [108])
theorem Bd3 (s : List UInt8) : Bk s.length (enc s) 1 76 = decide (s = [76]) := Cq (t := [76])
theorem Bd2 (s : List UInt8) : Bk s.length (enc s) 22 26291342665239622251265189840170011249128153612955952 = decide (s = Ge) := Cq (t := Ge)
theorem A1h {some L r : List UInt8} {n m : Nat} {point : Bool} {k : KV} (hl : r.length ≤ 4611686018427387904) (hk : k (.bool (Aiz some L n point r)) h0) :
 (r65 W1 k (m + 1)).a1 some.length (enc some) L.length (enc L) r.length (enc r) (Int.ofNat n) point h0 := by
 refine Bda ?_
 unfold Ams
 refine Dn (A8g r L hl) ?_
 rw [Ed, Ce, Ek, Bv]
 simp only [Atu, Apw]
 rw [eqN, Bq, Bq, Bd2, Fk, Bd5, Bk4, A08, Bd3]
 unfold Aiz at hk
 refine Bb (fun e => ?_) (fun e => ?_)
 · rw [if_pos e] at hk; exact hk
 · rw [if_neg (by rw [e]; simp)] at hk; exact hk
theorem A1g {some L s : List UInt8} {m : Nat} {k : KV} (hs : Ud some) (h2 : 2 ≤ some.length) (hl : s.length ≤ 2305843009213693952) (hk : k (.bool (Qa some L s)) h0) :
 (r65 W1 k (m + 2)).a2 some.length (enc some) L.length (enc L) s.length (enc s) h0 := by
 refine Bc9 ?_
 unfold Amr
 refine Dn (Aqi hs h2 s (by omega)) ?_
 rw [Au, As]
 have hr := Lh s some
 refine Fq hr ?_
 refine Dn (Az7 (s.drop (Cg s some)) [46]) ?_
 rw [Bv]
 unfold Qa at hk
 have hd : (s.drop (Cg s some)).length ≤ s.length := by rw [List.length_drop]; omega
 refine Bb (fun e => ?_) (fun e => ?_)
 · have e0 := e
   have e : (s.drop (Cg s some)).take 1 = [46] := of_decide_eq_true e
   rw [if_pos e] at hk
   have h1 : 1 ≤ (s.drop (Cg s some)).length := by
    have := congrArg List.length e
    simp at this; simp; omega
   refine Fq h1 ?_
   have hd1 : ((s.drop (Cg s some)).drop 1).length ≤ s.length := by rw [List.length_drop]; omega
   refine Dn (Aqi hs h2 ((s.drop (Cg s some)).drop 1) (by omega)) ?_
   have hr1 := Lh ((s.drop (Cg s some)).drop 1) some
   rw [Au, Ar, Gt, Ar, Gt]
   have w1 : wrap .i64 (Int.ofNat (Cg s some) + Int.ofNat (Cg ((s.drop (Cg s some)).drop 1) some)) = Int.ofNat (Cg s some + Cg ((s.drop (Cg s some)).drop 1) some) := wrap64 (by show _ ≤ ((_ : Nat) : Int) + ((_ : Nat) : Int); omega) (by show ((_ : Nat) : Int) + ((_ : Nat) : Int) ≤ _; omega)
   have w2 : wrap .i64 (Int.ofNat 1 + Int.ofNat (Cg ((s.drop (Cg s some)).drop 1) some)) = Int.ofNat (1 + Cg ((s.drop (Cg s some)).drop 1) some) := wrap64 (by show _ ≤ ((1 : Nat) : Int) + ((_ : Nat) : Int); omega) (by show ((1 : Nat) : Int) + ((_ : Nat) : Int) ≤ _; omega)
   rw [w1, w2, As]
   refine Fq (by have := List.length_drop (i := 1) (l := s.drop (Cg s some)); omega) ?_
   refine A1h (by rw [List.length_drop]; omega) (by rw [e0]; exact hk)
 · have e0 := e
   have e : ¬ (s.drop (Cg s some)).take 1 = [46] := of_decide_eq_false e
   rw [if_neg e] at hk
   exact A1h (by omega) (by rw [e0]; exact hk)
theorem c65 (s : List UInt8) (hl : s.length ≤ 2305843009213693952) : Pure PP G h0 65 [S s] (.bool (We s)) := by
 refine w65 (n := 3) Bj (g65 ?_)
 unfold Amt
 refine Dn (Bf9 s) ?_
 rw [Bv]
 refine Bb (fun e => ?_) (fun e => ?_)
 · have h2 : 2 ≤ s.length := by
    unfold Nq at e
    rw [Bool.or_eq_true, decide_eq_true_eq, decide_eq_true_eq] at e
    rcases e with e | e <;> (have := congrArg List.length e; simp [hx1, hx2] at this; omega)
   refine Fq h2 ?_
   refine A1g (some := Ge) (L := pL) Ak1 (by decide) (by rw [List.length_drop]; omega) ?_
   show AV.bool _ = _
   unfold We; rw [if_pos e]
 · refine A1g (some := Hg) (L := eL) Alb (by decide) hl ?_
   show AV.bool _ = _
   unfold We; rw [if_neg (by rw [e]; simp)]
def Aon (s : List UInt8) : Bool := s.all fun b => decide (48 ≤ b.toNat) && decide (b.toNat ≤ 57)
end Go.Den
namespace Go.Den
open Go.RowKit
set_option maxRecDepth 100000
theorem A8i {set : List UInt8} (hs : Ud set) (h2 : 2 ≤ set.length) (s : List UInt8) (hl : s.length ≤ 4611686018427387904) : Pure PP G h0 112 [S s, S set] (S (Gd s set)) := by
 refine Baa (n := 1) Bj (Bkq ?_)
 unfold Ae5
 have e0 : Bk set.length (enc set) 0 0 = false := To (t := []) (fun h => by subst h; simp at h2)
 rw [e0]
 have e1 : Bk s.length (enc s) 0 0 = decide (s = []) := Cq (t := [])
 rw [e1]
 refine Jg ?_
 refine Bb (fun e => ?_) (fun e => ?_)
 · have e : s = [] := by simpa using e
   subst e; rfl
 · refine Gq (fun e => ?_) (fun _ => ?_)
   · rw [Fi, beq_iff_eq] at e
     have : set.length = 1 := by have := Int.ofNat.inj e; exact this
     omega
   · refine Bl rfl ?_
     refine Dn hs ?_
     rw [Ed, Ek, Bv]
     refine Ec ?_
     refine Ah4 (zs := List.replicate 256 (.bool false)) (by simp) (Xo _) (by omega) ?_
     intro h' ha
     refine Cd rfl ?_
     refine A9l (n := s.length + 2) Bj (Bj1 ?_)
     unfold Ad5
     refine Avy (set := set) ha (fun x => ?_) _ s hl (by omega) ?_
     · rw [Ao, if_pos ⟨Nat.zero_le _, by rw [Xo]; have := x.toNat_lt; omega⟩, Nat.sub_zero]
       exact Amb set x
     · exact Ce.mpr rfl
theorem b25 (h : H) : Bm env (env.ty 55) [] h = some (.agg [.int .u64 (Int.ofNat 0), .bool false], h) := by kernel_rfl
def A0u : AV := .tuple [.agg [.int .u64 (Int.ofNat 0), .bool false], .bool false]
end Go.Den
namespace Go.Den
set_option maxRecDepth 100000
theorem A7w (s : List UInt8) : Aon s = true ↔ ∀ x ∈ s, x ∈ Hg := by
 unfold Aon
 rw [List.all_eq_true]
 have key : ∀ x : UInt8, (decide (48 ≤ x.toNat) && decide (x.toNat ≤ 57)) = true ↔ x ∈ Hg := by
  intro x
  rw [Bool.and_eq_true, decide_eq_true_eq, decide_eq_true_eq]
  have hx : ∀ n : Nat, n < 256 → (x = UInt8.ofNat n ↔ x.toNat = n) := fun n hn => by
   rw [← UInt8.toNat_inj]
   have : (UInt8.ofNat n).toNat = n := by simp; omega
   rw [this]
  have hd : Hg = [UInt8.ofNat 48, UInt8.ofNat 49, UInt8.ofNat 50, UInt8.ofNat 51, UInt8.ofNat 52, UInt8.ofNat 53, UInt8.ofNat 54, UInt8.ofNat 55, UInt8.ofNat 56, UInt8.ofNat 57] := rfl
  rw [hd]
  simp only [List.mem_cons, List.not_mem_nil, or_false]
  rw [hx 48 (by decide), hx 49 (by decide), hx 50 (by decide), hx 51 (by decide), hx 52 (by decide), hx 53 (by decide), hx 54 (by decide), hx 55 (by decide), hx 56 (by decide), hx 57 (by decide)]
  omega
 exact ⟨fun h x hx => (key x).1 (h x hx), fun h x hx => (key x).2 (h x hx)⟩
theorem Zb {a set : List UInt8} (r : List UInt8) (h : ∀ x ∈ a, x ∈ set) : Cg (a ++ r) set = a.length + Cg r set := by
 unfold Cg
 rw [List.takeWhile_append_of_pos (by simpa using h), List.length_append]
theorem Ank {c : UInt8} {set : List UInt8} (r : List UInt8) (h : c ∉ set) : Cg (c :: r) set = 0 := by
 unfold Cg; simp [h]
def Kc (r set : List UInt8) : Prop := ∀ c q, r = c :: q → c ∉ set
theorem Anl {r set : List UInt8} (h : Kc r set) : Cg r set = 0 := by
 cases r with
 | nil => rfl
 | cons c q => exact Ank q (h c q rfl)
theorem Azj {some L a r : List UInt8} (ha : ∀ x ∈ a, x ∈ some) (hr : Kc r some) (hd : Kc r [46]) : Qa some L (a ++ r) = Aiz some L a.length false r := by
 have e : Cg (a ++ r) some = a.length := by rw [Zb _ ha, Anl hr]; omega
 unfold Qa
 rw [e, List.drop_left]
 have : ¬ r.take 1 = [46] := by
  cases r with
  | nil => simp
  | cons c q => intro h; simp at h; exact hd c q rfl (by simp [h])
 rw [if_neg this]
theorem Ak3 {some L a b r : List UInt8} (ha : ∀ x ∈ a, x ∈ some) (h46 : (46 : UInt8) ∉ some) (hb : ∀ x ∈ b, x ∈ some) : Qa some L (a ++ 46 :: (b ++ r)) = Aiz some L (a.length + (b.length + Cg r some)) true (r.drop (Cg r some)) := by
 have e : Cg (a ++ 46 :: (b ++ r)) some = a.length := by rw [Zb _ ha, Ank _ h46]; omega
 unfold Qa
 rw [e, List.drop_left]
 rw [if_pos (by simp)]
 have e2 : ((46 : UInt8) :: (b ++ r)).drop 1 = b ++ r := rfl
 rw [e2, Zb _ hb]
 have e3 : ((46 : UInt8) :: (b ++ r)).drop (1 + (b.length + Cg r some)) = r.drop (Cg r some) := by
  rw [show 1 + (b.length + Cg r some) = (b.length + Cg r some) + 1 by omega, List.drop_succ_cons, ← List.drop_drop, List.drop_left]
 rw [e3]
def Ara : List (List UInt8) := [[], [102], [70], [108], [76]]
def Bmf : List (List UInt8) := [[], [43], [45]]
theorem Ac8 {t : List UInt8} (ht : t ∈ Ara) : Kc t Hg ∧ Kc t [43, 45] ∧ Kc t [46] ∧ Kc t eL ∧ Kc t pL ∧ Arb t = true := by
 simp only [Ara, List.mem_cons, List.not_mem_nil, or_false] at ht
 rcases ht with rfl | rfl | rfl | rfl | rfl <;> refine ⟨?_, ?_, ?_, ?_, ?_, by decide⟩ <;> intro c q h <;> cases h <;> decide
theorem Auq {t L : List UInt8} (h : Kc t L) : Qb t L = (t, false) := by
 cases t with
 | nil => rfl
 | cons c q => exact Ai0 (h c q rfl) q
theorem Ays {a : List UInt8} {c : UInt8} {r : List UInt8} (ha : ∀ x ∈ a, x ∈ Hg) (hc : c ≠ 120 ∧ c ≠ 88 ∧ c ≠ 48) : Nq (a ++ c :: r) = false := by
 have key : ∀ y : UInt8, (y = 120 ∨ y = 88) → ¬ (a ++ c :: r).take 2 = [48, y] := by
  intro y hy h
  match a, ha, h with
  | [], _, h =>
   have := congrArg List.head? h
   simp at this
   exact hc.2.2 this
  | [p], _, h =>
   simp at h
   rcases hy with rfl | rfl
   · exact hc.1 h.2
   · exact hc.2.1 h.2
  | p :: q :: a, ha, h =>
   simp at h
   have := ha q (by simp)
   rw [h.2] at this
   rcases hy with rfl | rfl <;> revert this <;> decide
 show (decide ((a ++ c :: r).take 2 = [48, 120]) || decide ((a ++ c :: r).take 2 = [48, 88])) = false
 rw [decide_eq_false (key 120 (.inl rfl)), decide_eq_false (key 88 (.inr rfl))]; rfl
section
variable {a b e t g : List UInt8} (ha : ∀ x ∈ a, x ∈ Hg) (hb : ∀ x ∈ b, x ∈ Hg) (he : ∀ x ∈ e, x ∈ Hg) (ht : t ∈ Ara) (hg : g ∈ Bmf)
include ha
omit ha in
theorem Azk {n : Nat} {p : Bool} {r : List UInt8} : Aiz Hg eL n p r = (!decide (n = 0) && ((Qb r eL).2 || p) && Arb (Qb r eL).1) := by
 have : decide (Hg = Ge) = false := by decide
 unfold Aiz
 rw [this, Bool.or_false]
 cases decide (n = 0) <;> cases (Qb r eL).2 <;> cases p <;> simp
include hb ht in
theorem p1 : We (a ++ 46 :: (b ++ t)) = (!decide (a = []) || !decide (b = [])) := by
 unfold We
 rw [if_neg (by rw [Ays ha (by decide)]; simp), Ak3 ha (by decide) hb, Anl (Ac8 ht).1, List.drop_zero, Azk, Auq (Ac8 ht).2.2.2.1, (Ac8 ht).2.2.2.2.2]
 cases a <;> cases b <;> simp
end
end Go.Den
