/-
 Part of the proof.
-/
import Derived.Test.YtcnmehbkpaoolaaGreatDoorByts
import Derived.KernelRfl
import Derived.Test.YtcnmehbkpaoolaaGreatDoorProg
import Derived.Lib.Walk
import Derived.Lib.IfaceEq
import Derived.WalkKit
import Derived.BigCall
set_option maxRecDepth 100000
namespace Go.Den
open Go.RowKit
theorem Bgz (s : List UInt8) : Pure PP G h0 114 [S s] (.bool (Nw s)) := by
 refine Ba3 (n := 1) Bn (Blh ?_)
 unfold Afd
 refine Dq (A0r s hx1) ?_
 rw [Ce]
 refine Wd (fun e => Dq (A0r s hx2) ?_) (fun e => ?_)
 · show AV.bool _ = AV.bool _
   unfold Nw
   have e : decide (s.take 2 = hx1) = false := e
   rw [e]; rfl
 · show AV.bool _ = AV.bool _
   unfold Nw
   have e : decide (s.take 2 = hx1) = true := e
   rw [e]; rfl
theorem Al3 {s q : List UInt8} {k : KV} {n : Nat} (hl : q.length ≤ 4611686018427387904)
 (hk : k (.tuple [if Cn q Ir = 0 then S s else S (q.drop (Cn q Ir)), .bool (decide (Cn q Ir ≠ 0))]) h0) : (Abn W1 k (n + 1)).a1 s.length (enc s) q.length (enc q) h0 := by
 refine A5g ?_
 unfold Ae9
 refine Dq (Aqx Alp (by decide) q hl) ?_
 rw [Au]
 refine Aw (fun e => ?_) (fun e => ?_)
 · rw [Fp, beq_iff_eq] at e
   have e : Cn q Ir = 0 := Int.ofNat.inj e
   rw [e] at hk
   exact hk
 · have e : ¬ Cn q Ir = 0 := fun h => by rw [h] at e; simp [Fp] at e
   rw [Ar]
   refine Fv (Ln _ _) ?_
   rw [if_neg e, decide_eq_true (show Cn q Ir ≠ 0 from e)] at hk
   exact hk
theorem A9b (s L : List UInt8) (hl : s.length ≤ 4611686018427387904) : Pure PP G h0 118 [S s, S L] (.tuple [S (Qj s L).1, .bool (Qj s L).2]) := by
 refine Baz (n := 2) Bn (Blc ?_)
 unfold Afa
 cases s with
 | nil =>
  refine Wd (fun e => ?_) (fun _ => ?_)
  · cases e
  · exact Cg rfl rfl
 | cons x r =>
  have e0 : Bq (x :: r).length (enc (x :: r)) 0 0 = false := Ts (t := []) (by simp)
  refine Wd (fun _ => ?_) (fun e => by rw [e0] at e; cases e)
  refine Ck (Nat.zero_lt_succ _) ?_
  refine Dq (A84 L x) ?_
  rw [Au, Fm]
  refine Aw (fun e => ?_) (fun e => ?_)
  · have e : x ∉ L := (Zw L x).1 (of_decide_eq_true e)
    have := Ajb e r
    rw [this]
  · have e : x ∈ L := by
     by_cases h : x ∈ L
     · exact h
     · exact absurd ((Zw L x).2 h) (of_decide_eq_false e)
    have he : Qj (x :: r) L = (if Cn (Pb r) Ir = 0 then (x :: r, false) else ((Pb r).drop (Cn (Pb r) Ir), true)) := Az5 e r
    have fin : ((fun v (_ : H) => v = AV.tuple [S (Qj (x :: r) L).1, .bool (Qj (x :: r) L).2]) : KV) (.tuple [if Cn (Pb r) Ir = 0 then S (x :: r) else S ((Pb r).drop (Cn (Pb r) Ir)), .bool (decide (Cn (Pb r) Ir ≠ 0))]) h0 := by
     show AV.tuple _ = _
     rw [he]
     by_cases h : Cn (Pb r) Ir = 0 <;> simp [h]
    have hr : (Pb r).length ≤ 4611686018427387904 := Nat.le_trans (Ark r) (by simp at hl; omega)
    refine Fv (s := x :: r) (Nat.le_add_left 1 _) ?_
    show Am _ _
    cases r with
    | nil =>
     refine Gu (fun e => ?_) (fun _ => ?_)
     · cases e
     · exact Bp rfl (Al3 (q := []) hr fin)
    | cons c r =>
     have e1 : Cw (Bq (c :: r).length (enc (c :: r)) 0 0) = true := by rw [Ky]; rfl
     refine Gu (fun _ => ?_) (fun e => Bool.noConfusion (e1.symm.trans e))
     refine Ck (s := c :: r) (Nat.zero_lt_succ _) ?_
     rw [toNat_eq _ 43 (by decide)]
     have key : ∀ b : Bool, b = decide (c = 43 ∨ c = 45) → cnd b (Gh (c :: r).length (enc (c :: r)) 1 (c :: r).length fun l c' => (Abn W1 (fun v _ => v = .tuple [S (Qj (x :: c :: r) L).1, .bool (Qj (x :: c :: r) L).2]) 1).a1 (x :: c :: r).length (enc (x :: c :: r)) l c' h0)
      ((Abn W1 (fun v _ => v = .tuple [S (Qj (x :: c :: r) L).1, .bool (Qj (x :: c :: r) L).2]) 1).a1 (x :: c :: r).length (enc (x :: c :: r)) (c :: r).length (enc (c :: r)) h0) := by
      intro b hb
      refine Aw (fun e => ?_) (fun e => ?_)
      · have e : c = 43 ∨ c = 45 := of_decide_eq_true (hb ▸ e)
        have hu : Pb (c :: r) = r := if_pos e
        rw [hu] at fin hr
        exact Fv (s := c :: r) (Nat.le_add_left 1 _) (Al3 (q := r) hr fin)
      · have e : ¬ (c = 43 ∨ c = 45) := of_decide_eq_false (hb ▸ e)
        have hu : Pb (c :: r) = c :: r := if_neg e
        rw [hu] at fin hr
        exact Al3 (q := c :: r) hr fin
     refine Wd (fun e => ?_) (fun e => ?_)
     · refine Ck (s := c :: r) (Nat.zero_lt_succ _) ?_
       rw [toNat_eq _ 45 (by decide)]
       have e : ¬ c = 43 := of_decide_eq_false e
       exact key _ (by simp only [List.getElem_cons_zero]; congr 1; simp [e])
     · have e : c = 43 := of_decide_eq_true e
       exact key _ (by simp [e])
def Arq (r : List UInt8) : Bool := decide (r = []) || decide (r = [102]) || decide (r = [70]) || decide (r = [108]) || decide (r = [76])
def Alg (some L : List UInt8) (n : Nat) (point : Bool) (r : List UInt8) : Bool :=
 if decide (n = 0) || (!(Qj r L).2 && (!point || decide (some = Gj))) then false else Arq (Qj r L).1
def Wk (some L rest : List UInt8) : Bool :=
 if (rest.drop (Cn rest some)).take 1 = [46] then Alg some L (Cn rest some + Cn ((rest.drop (Cn rest some)).drop 1) some) true ((rest.drop (Cn rest some)).drop (1 + Cn ((rest.drop (Cn rest some)).drop 1) some))
 else Alg some L (Cn rest some) false (rest.drop (Cn rest some))
def eL : List UInt8 := [101, 69]
def pL : List UInt8 := [112, 80]
def Wl (s : List UInt8) : Bool := if Nw s then Wk Gj pL (s.drop 2) else Wk Ir eL s
theorem Bet (s : List UInt8) : Bq s.length (enc s) 1 102 = decide (s = [102]) := Dc (t := [102])
theorem Blw (s : List UInt8) : Bq s.length (enc s) 1 70 = decide (s = [70]) := Dc (t := [70])
theorem A1v (s : List UInt8) : Bq s.length (enc s) 1 108 = decide (s = [108]) := Dc (t := [108])
theorem Ber (s : List UInt8) : Bq s.length (enc s) 1 76 = decide (s = [76]) := Dc (t := [76])
theorem Beq (s : List UInt8) : Bq s.length (enc s) 22 26291342665239622251265189840170011249128153612955952 = decide (s = Gj) := Dc (t := Gj)
theorem A14 {some L r : List UInt8} {n m : Nat} {point : Bool} {k : KV} (hl : r.length ≤ 4611686018427387904) (hk : k (.bool (Alg some L n point r)) h0) :
 (r65 W1 k (m + 1)).a1 some.length (enc some) L.length (enc L) r.length (enc r) (Int.ofNat n) point h0 := by
 refine Bdz ?_
 unfold Am7
 refine Dq (A9b r L hl) ?_
 rw [Eo, Ch, Ew, Ce]
 simp only [At7, Aqa]
 rw [eqN, Bw, Bw, Beq, Gk, Bet, Blw, A1v, Ber]
 unfold Alg at hk
 refine Aw (fun e => ?_) (fun e => ?_)
 · rw [if_pos e] at hk; exact hk
 · rw [if_neg (by rw [e]; simp)] at hk; exact hk
theorem A13 {some L s : List UInt8} {m : Nat} {k : KV} (hs : Ug some) (h2 : 2 ≤ some.length) (hl : s.length ≤ 2305843009213693952) (hk : k (.bool (Wk some L s)) h0) :
 (r65 W1 k (m + 2)).a2 some.length (enc some) L.length (enc L) s.length (enc s) h0 := by
 refine Bdy ?_
 unfold Am6
 refine Dq (Aqx hs h2 s (by omega)) ?_
 rw [Au, Ar]
 have hr := Ln s some
 refine Fv hr ?_
 refine Dq (A0r (s.drop (Cn s some)) [46]) ?_
 rw [Ce]
 unfold Wk at hk
 have hd : (s.drop (Cn s some)).length ≤ s.length := by rw [List.length_drop]; omega
 refine Aw (fun e => ?_) (fun e => ?_)
 · have e0 := e
   have e : (s.drop (Cn s some)).take 1 = [46] := of_decide_eq_true e
   rw [if_pos e] at hk
   have h1 : 1 ≤ (s.drop (Cn s some)).length := by
    have := congrArg List.length e
    simp at this; simp; omega
   refine Fv h1 ?_
   have hd1 : ((s.drop (Cn s some)).drop 1).length ≤ s.length := by rw [List.length_drop]; omega
   refine Dq (Aqx hs h2 ((s.drop (Cn s some)).drop 1) (by omega)) ?_
   have hr1 := Ln ((s.drop (Cn s some)).drop 1) some
   rw [Au, As, Hf, As, Hf]
   have w1 : wrap .i64 (Int.ofNat (Cn s some) + Int.ofNat (Cn ((s.drop (Cn s some)).drop 1) some)) = Int.ofNat (Cn s some + Cn ((s.drop (Cn s some)).drop 1) some) := wrap64 (by show _ ≤ ((_ : Nat) : Int) + ((_ : Nat) : Int); omega) (by show ((_ : Nat) : Int) + ((_ : Nat) : Int) ≤ _; omega)
   have w2 : wrap .i64 (Int.ofNat 1 + Int.ofNat (Cn ((s.drop (Cn s some)).drop 1) some)) = Int.ofNat (1 + Cn ((s.drop (Cn s some)).drop 1) some) := wrap64 (by show _ ≤ ((1 : Nat) : Int) + ((_ : Nat) : Int); omega) (by show ((1 : Nat) : Int) + ((_ : Nat) : Int) ≤ _; omega)
   rw [w1, w2, Ar]
   refine Fv (by have := List.length_drop (i := 1) (l := s.drop (Cn s some)); omega) ?_
   refine A14 (by rw [List.length_drop]; omega) (by rw [e0]; exact hk)
 · have e0 := e
   have e : ¬ (s.drop (Cn s some)).take 1 = [46] := of_decide_eq_false e
   rw [if_neg e] at hk
   exact A14 (by omega) (by rw [e0]; exact hk)
theorem c65 (s : List UInt8) (hl : s.length ≤ 2305843009213693952) : Pure PP G h0 65 [S s] (.bool (Wl s)) := by
 refine w65 (n := 3) Bn (g65 ?_)
 unfold Am8
 refine Dq (Bgz s) ?_
 rw [Ce]
 refine Aw (fun e => ?_) (fun e => ?_)
 · have h2 : 2 ≤ s.length := by
    unfold Nw at e
    rw [Bool.or_eq_true, decide_eq_true_eq, decide_eq_true_eq] at e
    rcases e with e | e <;> (have := congrArg List.length e; simp [hx1, hx2] at this; omega)
   refine Fv h2 ?_
   refine A13 (some := Gj) (L := pL) Ald (by decide) (by rw [List.length_drop]; omega) ?_
   show AV.bool _ = _
   unfold Wl; rw [if_pos e]
 · refine A13 (some := Ir) (L := eL) Alp (by decide) hl ?_
   show AV.bool _ = _
   unfold Wl; rw [if_neg (by rw [e]; simp)]
theorem Bm2 {set : List UInt8} (hs : Ug set) (h2 : 2 ≤ set.length) (s : List UInt8) (hl : s.length ≤ 4611686018427387904) : Pure PP G h0 112 [S s, S set] (S (Gi s set)) := by
 refine Ba5 (n := 1) Bn (Blj ?_)
 unfold Afg
 have e0 : Bq set.length (enc set) 0 0 = false := Ts (t := []) (fun h => by subst h; simp at h2)
 rw [e0]
 have e1 : Bq s.length (enc s) 0 0 = decide (s = []) := Dc (t := [])
 rw [e1]
 refine Kg ?_
 refine Aw (fun e => ?_) (fun e => ?_)
 · have e : s = [] := by simpa using e
   subst e; rfl
 · refine Gu (fun e => ?_) (fun _ => ?_)
   · rw [Fp, beq_iff_eq] at e
     have : set.length = 1 := by have := Int.ofNat.inj e; exact this
     omega
   · refine Bp rfl ?_
     refine Dq hs ?_
     rw [Eo, Ew, Ce]
     refine El ?_
     refine Aig (zs := List.replicate 256 (.bool false)) (by simp) (Xw _) (by omega) ?_
     intro h' ha
     refine Cg rfl ?_
     refine Bag (n := s.length + 2) Bn (Bkt ?_)
     unfold Aeg
     refine Awd (set := set) ha (fun x => ?_) _ s hl (by omega) ?_
     · rw [Ap, if_pos ⟨Nat.zero_le _, by rw [Xw]; have := x.toNat_lt; omega⟩, Nat.sub_zero]
       exact Amq set x
     · exact Ch.mpr rfl
theorem b25 (h : H) : Bv env (env.ty 55) [] h = some (.agg [.int .u64 (Int.ofNat 0), .bool false], h) := by kernel_rfl
def A1g : AV := .tuple [.agg [.int .u64 (Int.ofNat 0), .bool false], .bool false]
end Go.Den
namespace Go.Den
theorem Ahy {a set : List UInt8} (r : List UInt8) (h : ∀ x ∈ a, x ∈ set) : Cn (a ++ r) set = a.length + Cn r set := by
 unfold Cn
 rw [List.takeWhile_append_of_pos (by simpa using h), List.length_append]
theorem An2 {c : UInt8} {set : List UInt8} (r : List UInt8) (h : c ∉ set) : Cn (c :: r) set = 0 := by
 unfold Cn; simp [h]
def Nx (r set : List UInt8) : Prop := ∀ c q, r = c :: q → c ∉ set
theorem Ayt {r set : List UInt8} (h : Nx r set) : Cn r set = 0 := by
 cases r with
 | nil => rfl
 | cons c q => exact An2 q (h c q rfl)
theorem Alf {some L a b r : List UInt8} (ha : ∀ x ∈ a, x ∈ some) (h46 : (46 : UInt8) ∉ some) (hb : ∀ x ∈ b, x ∈ some) : Wk some L (a ++ 46 :: (b ++ r)) = Alg some L (a.length + (b.length + Cn r some)) true (r.drop (Cn r some)) := by
 have e : Cn (a ++ 46 :: (b ++ r)) some = a.length := by rw [Ahy _ ha, An2 _ h46]; omega
 unfold Wk
 rw [e, List.drop_left]
 rw [if_pos (by simp)]
 have e2 : ((46 : UInt8) :: (b ++ r)).drop 1 = b ++ r := rfl
 rw [e2, Ahy _ hb]
 have e3 : ((46 : UInt8) :: (b ++ r)).drop (1 + (b.length + Cn r some)) = r.drop (Cn r some) := by
  rw [show 1 + (b.length + Cn r some) = (b.length + Cn r some) + 1 by omega, List.drop_succ_cons, ← List.drop_drop, List.drop_left]
 rw [e3]
def Arp : List (List UInt8) := [[], [102], [70], [108], [76]]
def Bcc : List (List UInt8) := [[], [43], [45]]
theorem Adk {t : List UInt8} (ht : t ∈ Arp) : Nx t Ir ∧ Nx t [43, 45] ∧ Nx t [46] ∧ Nx t eL ∧ Nx t pL ∧ Arq t = true := by
 simp only [Arp, List.mem_cons, List.not_mem_nil, or_false] at ht
 rcases ht with rfl | rfl | rfl | rfl | rfl <;> refine ⟨?_, ?_, ?_, ?_, ?_, by decide⟩ <;> intro c q h <;> cases h <;> decide
theorem Au4 {t L : List UInt8} (h : Nx t L) : Qj t L = (t, false) := by
 cases t with
 | nil => rfl
 | cons c q => exact Ajb (h c q rfl) q
theorem Azg {a : List UInt8} {c : UInt8} {r : List UInt8} (ha : ∀ x ∈ a, x ∈ Ir) (hc : c ≠ 120 ∧ c ≠ 88 ∧ c ≠ 48) : Nw (a ++ c :: r) = false := by
 have key : ∀ y : UInt8, (y = 120 ∨ y = 88) → ¬ (a ++ c :: r).take 2 = [48, y] := by
  intro y hy h
  match a, ha, h with
  | [], _, h =>
   have := congrArg List.head? h
   simp at this
   exact hc.2.2 this
  | [p], _, h =>
   simp at h
   rcases hy with rfl | rfl
   · exact hc.1 h.2
   · exact hc.2.1 h.2
  | p :: q :: a, ha, h =>
   simp at h
   have := ha q (by simp)
   rw [h.2] at this
   rcases hy with rfl | rfl <;> revert this <;> decide
 show (decide ((a ++ c :: r).take 2 = [48, 120]) || decide ((a ++ c :: r).take 2 = [48, 88])) = false
 rw [decide_eq_false (key 120 (.inl rfl)), decide_eq_false (key 88 (.inr rfl))]; rfl
section
variable {a b e t g : List UInt8} (ha : ∀ x ∈ a, x ∈ Ir) (hb : ∀ x ∈ b, x ∈ Ir) (he : ∀ x ∈ e, x ∈ Ir) (ht : t ∈ Arp) (hg : g ∈ Bcc)
include ha
omit ha in
theorem Az3 {n : Nat} {p : Bool} {r : List UInt8} : Alg Ir eL n p r = (!decide (n = 0) && ((Qj r eL).2 || p) && Arq (Qj r eL).1) := by
 have : decide (Ir = Gj) = false := by decide
 unfold Alg
 rw [this, Bool.or_false]
 cases decide (n = 0) <;> cases (Qj r eL).2 <;> cases p <;> simp
include hb ht in
theorem p1 : Wl (a ++ 46 :: (b ++ t)) = (!decide (a = []) || !decide (b = [])) := by
 unfold Wl
 rw [if_neg (by rw [Azg ha (by decide)]; simp), Alf ha (by decide) hb, Ayt (Adk ht).1, List.drop_zero, Az3, Au4 (Adk ht).2.2.2.1, (Adk ht).2.2.2.2.2]
 cases a <;> cases b <;> simp
end
end Go.Den
namespace Go.Proofs
open Go.RowKit
set_option maxHeartbeats 4000000 in
set_option maxRecDepth 100000 in
theorem Tryz.Bb7 {Q : Addr → World → Prop} (fn s : ByteArray) (base bits : Int) (w : World)
 (hr : Calls Tryz.prog 224 #[.string fn, .string s] w fun e w' => ∃ a, e = .returned (.pointer (some a)) ∧ Q a w') :
 Calls Tryz.prog 174 #[.string fn, .string s, .int .i64 base, .int .i64 bits, .iface 304 (.int .i64 1)] w fun e w' => ∃ a, e = .returned (.iface 306 (.pointer (some a))) ∧ Q a w' := by
 have hq12 : ∀ W, (binOp .eql 151 (.iface 304 (.int .i64 1)) (.iface 304 (.int .i64 2))).run Tryz.prog W = .ok (.bool false) W := fun W => Lib.run_eql_iface_int W 1 2 Tryz.underlying151 (by kernel_rfl) Tryz.underlying304
 have hq11 : ∀ W, (binOp .eql 151 (.iface 304 (.int .i64 1)) (.iface 304 (.int .i64 1))).run Tryz.prog W = .ok (.bool true) W := fun W => Lib.run_eql_iface_int W 1 1 Tryz.underlying151 (by kernel_rfl) Tryz.underlying304
 go_enter Tryz.func174, Tryz.ntmps174
 go_wp2_with (go_at_call 224; refine hr.mono ?_; rintro e w2 ⟨a, rfl, hQ⟩)
 go_wp2
 go_ret
 exact ⟨a, rfl, hQ⟩
end Go.Proofs
noncomputable section
namespace Go.Den
open Go.RowKit
def cE : Nat → AV := fun _ => .iface 414 (.ptr (pOf 12) 0)
def oE : Ob FT := .ext cE 1
def Akm (i : Nat) : Nat := Bool.rec (Bool.rec 0 1 (Ai (Nat.ble 9 i) (Nat.ble i 13))) 1 (Nat.beq i 32)
def cA : Nat → AV := fun i => .int .u8 (.ofNat (Akm i))
def oA : Ob FT := .ext cA 256
def Atl : List (Ob FT) := [oA, .dead, .dead, .dead, .dead, .dead, oE, .dead, .dead, .dead, .dead, .dead, .dead]
abbrev h1 : H := Kk Atl
def Jz (h : H) : Prop := h.at (pOf 0) = oA ∧ h.at (pOf 6) = oE ∧ 13 ≤ h.next.nat
theorem Aas : h1.at (pOf 0) = oA := by rw [Hu, Cq]; rfl
theorem Ai2 : h1.at (pOf 6) = oE := by rw [Hu, Cq]; rfl
theorem Af5 : h1.next.nat = 13 := by show (pOf 13).nat = 13; rw [Cq]
theorem Azy : Jz h1 := ⟨Aas, Ai2, by rw [Af5]; exact Nat.le_refl _⟩
theorem Jz.keep {h h' : H} (he : Jz h) (hn : h.next.nat ≤ h'.next.nat) (hk : ∀ c, c.nat < h.next.nat → h'.at c = h.at c) : Jz h' :=
 ⟨by rw [hk (pOf 0) (by rw [Cq]; have := he.2.2; omega)]; exact he.1, by rw [hk (pOf 6) (by rw [Cq]; have := he.2.2; omega)]; exact he.2.1, Nat.le_trans he.2.2 hn⟩
theorem Jz.new {h : H} {o : Ob FT} (he : Jz h) : Jz (h.new o) := he.keep (by rw [Bf]; omega) fun _ hc => Dh hc
theorem Yg (b : P) (hb : h1.at b ≠ .dead) : b = pOf 0 ∨ b = pOf 6 := by
 rw [Hu] at hb
 have : b.nat = 0 ∨ b.nat = 6 := by
  match hn : b.nat with
  | 0 => exact .inl rfl
  | 6 => exact .inr rfl
  | 1 | 2 | 3 | 4 | 5 | 7 | 8 | 9 | 10 | 11 | 12 => rw [hn] at hb; exact absurd rfl hb
  | n + 13 => rw [hn] at hb; exact absurd rfl hb
 rcases this with e | e
 · left; rw [← e, Uc]
 · right; rw [← e, Uc]
theorem Aci {F : FuncId} {args : List AV} {r : AV} (hp : Pure PP G h1 F args r) (ha : Nn args = true) (hr : plain r = true) {h : H} (he : Jz h) {k : KV} (hk : k r h) : W1 (.func F) args h k := fun μ w fn' vargs s gl hf hv => by
 let μ0 : Mu := fun b => if b.nat < 13 then μ b else none
 have hin : ∀ b, b.nat < 13 → μ0 b = μ b := fun b hb => if_pos hb
 have hat : ∀ b, h1.at b ≠ .dead → h.at b = h1.at b ∧ b.nat < 13 := fun b hb => by
  rcases Yg b hb with rfl | rfl
  · exact ⟨by rw [he.1, Aas], by rw [Cq]; decide⟩
  · exact ⟨by rw [he.2.1, Ai2], by rw [Cq]; decide⟩
 have s0 : Sim μ0 h1 w := by
  refine ⟨fun b c hc => ?_, fun b hb => ?_, fun b l hb hl => ?_, fun b b' c c' ho => ?_⟩
  · have hc : (if b.nat < 13 then μ b else none) = some c := hc
    by_cases hb : b.nat < 13
    · rw [Af5]; exact hb
    · rw [if_neg hb] at hc; cases hc
  · rw [Af5] at hb
    by_cases e : h1.at b = .dead
    · exact e
    · have := (hat b e).2; omega
  · obtain ⟨e1, e2⟩ := hat b hb
    rw [hin _ e2] at hl
    have hob := s.ob b l (by rw [e1]; exact hb) hl
    rw [e1] at hob
    rcases Yg b hb with rfl | rfl
    · rw [Aas] at hob ⊢
      obtain ⟨cs, e, fz, h1', h2, h3, h4⟩ := hob
      refine ⟨cs, e, fz, h1', h2, h3, fun i hi => ?_⟩
      obtain ⟨v, hv, hvr, ho⟩ := h4 i hi
      exact ⟨v, hv, hvr, ho⟩
    · rw [Ai2] at hob ⊢
      obtain ⟨cs, e, fz, h1', h2, h3, h4⟩ := hob
      refine ⟨cs, e, fz, h1', h2, h3, fun i hi => ?_⟩
      obtain ⟨v, hv, hvr, ho⟩ := h4 i hi
      refine ⟨v, hv, ?_, ho⟩
      obtain ⟨y, rfl, q, hq, rfl⟩ := hvr
      exact ⟨_, rfl, q, by rw [hin _ (by rw [Cq]; decide)]; exact hq, rfl⟩
  · by_cases e : h1.at b = .dead
    · rw [e] at ho; cases ho
    · rcases Yg b e with rfl | rfl
      · rw [Aas] at ho; cases ho
      · rw [Ai2] at ho; cases ho
 have g0 : Fy μ0 G := fun g hg => by
  obtain ⟨c, h2, h3⟩ := gl g hg
  have hg : g < 12 := hg
  exact ⟨c, by rw [hin _ (by rw [Cq]; omega)]; exact h2, h3⟩
 have own0 : ∀ b, (h1.at b).own = false := fun b => by
  by_cases e : h1.at b = .dead
  · rw [e]; rfl
  · rcases Yg b e with rfl | rfl
    · rw [Aas]; rfl
    · rw [Ai2]; rfl
 rcases hp μ0 w fn' vargs s0 g0 (show FnR μ0 (.func F) fn' by cases fn' <;> exact hf) (VRs.plain _ _ ha hv) with ⟨f, e, hh⟩ | ⟨l, F', tmps, qs, bd, e, _⟩
 case inr => subst e; exact hf.elim
 refine .inl ⟨f, e, ?_⟩
 rcases hh with ⟨v, w', μ', av, h', h1, h2, h3, h4, h5⟩ | ⟨h1, h2⟩
 · subst h5
   have b := Is h3 own0
   exact .inl ⟨v, w', μ, av, h, h1, s.below b, .below b, VR.plain _ _ hr h4, hk⟩
 · refine .inr ⟨h1, h2.mono fun e w' he => ?_⟩
   obtain ⟨v, μ', av, h', h3, h4, h5, h6, h7⟩ := he
   subst h7
   have b := Is h5 own0
   exact ⟨v, μ, av, h, h3, s.below b, .below b, VR.plain _ _ hr h6, hk⟩
theorem A4s {h : H} {b : P} {c : Nat → AV} {n o : Nat} {K : AV → Prop} (ha : h.at b = .ext c n) (ho : o < n) (hk : K (c o)) : ld1 (.ptr b o) h K := by
 show h.Hi b o Ak K
 unfold Hp.Hi
 rw [ha]
 show Zq o Ak K c n
 unfold Zq
 rw [show Nat.ble (Nat.add o 1) n = true from Nat.ble_eq_true_of_le ho]
 show Cb (c o) K
 rw [Cd]; exact hk
theorem Bjy (n : Nat) (h : H) : An env 115 (fun e ei => Dv (Bg (.int .i64 (Int.ofNat n))) (Bg (.int .i64 (Int.ofNat n))) h e ei) = (Bool.rec none (some (.slice h.next 0 n 1 (Nat.beq n n), h.new (.row (Ah (Kc [.int .u8 (.ofNat 0)] n) 0 .e) (Nat.mul n 1) 0 TB true)))
 (Ai (Nat.ble n n) (Ai (Ai true true) (Ai (Nat.ble n 1099511627776) (Nat.ble (Nat.mul n 1) 140737488355328)))) : Option (AV × H)) := by kernel_rfl
theorem cp9 (x y : AV) (h : H) : Ao env .copy [115, 9] [x, y] h = Tc x y h TB ei8 := by kernel_rfl
theorem Bev {b : P} {n : Nat} {t : Bool} {K : AV → Prop} (h : 1 ≤ n) : Ca 1 0 (.slice b 0 n 1 t) K = K (.ptr b 0) := by
 show (Bool.rec Ak (fN (Nat.add 0 (Nat.mul 0 1)) fun q => K (.ptr b q)) (Ai (Nat.ble (Nat.add 0 1) n) (Nat.beq 1 1)) : Prop) = _
 rw [Nat.ble_eq_true_of_le (show Nat.add 0 1 ≤ n by show 0 + 1 ≤ n; omega)]
 rfl
theorem Xo {l : List AV} {K : List AV → Prop} : asG (.agg l) K = K l := rfl
theorem Bgj {K : Prop} : chk true K = K := rfl
theorem Bmg (s : List UInt8) (hl : s.length ≤ 1099511627776) : Pure PP G h0 265 [S s] (S s) := by
 refine A93 (n := 1) Bn (Bkg ?_)
 unfold Adv
 rw [Ko]
 refine Aw (fun e => ?_) (fun e => ?_)
 · have e : s.length = 0 := of_decide_eq_true e
   have : s = [] := List.eq_nil_of_length_eq_zero e
   subst this; rfl
 · have e : ¬ s.length = 0 := of_decide_eq_false e
   rw [Bjy, Nat.ble_eq_true_of_le (Nat.le_refl _), Nat.ble_eq_true_of_le hl, Nat.ble_eq_true_of_le (show Nat.mul s.length 1 ≤ 140737488355328 by show s.length * 1 ≤ _; omega)]
   show oK (some (.slice h0.next 0 s.length 1 (Nat.beq s.length s.length), h0.new (.row (Ah (Kc [.int .u8 (.ofNat 0)] s.length) 0 .e) (Nat.mul s.length 1) 0 TB true))) _
   rw [Ae, cp9]
   have ha : (h0.new (.row (Ah (Kc [.int .u8 (.ofNat 0)] s.length) 0 .e) (Nat.mul s.length 1) 0 TB true)).at h0.next = .row (Ah (Kc [.int .u8 (.ofNat 0)] s.length) 0 .e) (Nat.mul s.length 1) 0 TB true := Ax _ _
   generalize h0.new (.row (Ah (Kc [.int .u8 (.ofNat 0)] s.length) 0 .e) (Nat.mul s.length 1) 0 TB true) = h at ha ⊢
   generalize Ah (Kc [.int .u8 (.ofNat 0)] s.length) 0 .e = t at ha
   have ec : Tc (.slice h0.next 0 s.length 1 (Nat.beq s.length s.length)) (S s) h TB ei8 = some (.int .i64 (.ofNat s.length), h.put h0.next (.row (Ah (ubs s) 0 t) (Nat.mul s.length 1) 0 TB true)) := by
    show (Option.rec none (fun p => Bool.rec none (Bool.rec (Uu s.length (h.write h0.next 0 (Ij (Nat.mul s.length 1) p.2))) (Uu p.1 (h.write h0.next 0 p.2)) (Nat.ble p.1 s.length)) (Nat.beq 1 1)) (Bs h 1 (S s)) : Option (AV × H)) = _
    rw [Rp]
    show (Bool.rec (Uu s.length (h.write h0.next 0 (Ij (Nat.mul s.length 1) (ubs s)))) (Uu s.length (h.write h0.next 0 (ubs s))) (Nat.ble s.length s.length) : Option (AV × H)) = _
    rw [Nat.ble_eq_true_of_le (Nat.le_refl _)]
    show Uu s.length (h.write h0.next 0 (ubs s)) = _
    have hw : h.write h0.next 0 (ubs s) = some (h.put h0.next (.row (Ah (ubs s) 0 t) (Nat.mul s.length 1) 0 TB true)) := by
     unfold Hp.write Hp.Gn
     rw [ha]
     show Sb h h0.next 0 (ubs s) none some t (Nat.mul s.length 1) 0 TB true = _
     unfold Sb
     rw [Di, show (ubs s).length = s.length by simp [ubs], show Nat.ble (Nat.add 0 s.length) (Nat.mul s.length 1) = true from Nat.ble_eq_true_of_le (by show 0 + s.length ≤ s.length * 1; omega)]
     show Jf (Ah (ubs s) 0 t) (fun t => h.Px h0.next (.row t (Nat.mul s.length 1) 0 TB true) some) = _
     rw [Ic, Lo]
    rw [hw]; rfl
   rw [ec, Ae, Au]
   rw [Bev (by omega), Ji, Arj]
   have e2 : Jv env (.ptr h0.next 0) (Bg (.int .i64 (Int.ofNat s.length))) (h.put h0.next (.row (Ah (ubs s) 0 t) (Nat.mul s.length 1) 0 TB true)) = (Bool.rec (Ab7 env h0.next 0 s.length (h.put h0.next (.row (Ah (ubs s) 0 t) (Nat.mul s.length 1) 0 TB true)) (Ec ((h.put h0.next (.row (Ah (ubs s) 0 t) (Nat.mul s.length 1) 0 TB true)).at h0.next))) (some (.str 0 0, h.put h0.next (.row (Ah (ubs s) 0 t) (Nat.mul s.length 1) 0 TB true))) (Nat.beq s.length 0) : Option (AV × H)) := rfl
   have e3 : Nat.beq s.length 0 = false := by rw [Ex]; exact decide_eq_false e
   rw [e2, e3, Bo]
   show oK (Bool.rec none (Ng _ (Er (Cp (Ah (ubs s) 0 t) s.length 0))) (Ai (isByte env TB) (Ai (Nat.ble (Nat.add 0 s.length) (Nat.mul s.length 1)) (Nat.ble s.length (intMax .i64)))) : Option (AV × H)) _
   rw [isB, Nat.ble_eq_true_of_le (show Nat.add 0 s.length ≤ Nat.mul s.length 1 by show 0 + s.length ≤ s.length * 1; omega), Nat.ble_eq_true_of_le (show s.length ≤ intMax .i64 by show s.length ≤ 9223372036854775807; omega), (Dy.new s t).get]
   show oK (Ng _ (Er (ubs s))) _
   rw [Ab8, Ae, Ch]
theorem b98 (l c l' c' : Nat) (h : H) : Bv env (env.ty 365) [(0, (.str l c)), (1, (.str l' c')), (2, cE 0)] h = some (.agg [.str l c, .str l' c', cE 0], h) := by kernel_rfl
theorem Bmk {fn s : List UInt8} {h : H} {k : KV} (he : Jz h) (hl : s.length ≤ 1099511627776) (hk : ∀ h' p, h.next.nat ≤ h'.next.nat → (∀ c, c.nat < h.next.nat → h'.at c = h.at c) → k (.ptr p 0) h') : W1 (.func 224) [S fn, S s] h k := by
 refine A95 (n := 1) Bn (Bki ?_)
 unfold Adx
 show ld1 (.ptr (pOf 6) 0) h _
 refine A4s he.2.1 (by decide) ?_
 refine Dq (Bmg s hl) ?_
 rw [Ch]
 show ld1 (.ptr (pOf 6) 0) h _
 refine A4s he.2.1 (by decide) ?_
 rw [show ∀ A : Prop, eqC (cE 0) (cE 0) A = A from fun A => by kernel_rfl, b98, Ae]
 rw [Xo, show Nat.ble 1 (len [S fn, S s, cE 0]) = true from rfl, Bgj]
 refine El ?_
 exact hk _ _ (by rw [Bf]; omega) fun c hc => Dh hc
theorem Ajk {F : FuncId} {fn : Func} {c : Code} (hf : PP.funcs[F]? = some fn) (hb : fn.body = some c) (hname : (fn.name == "runtime.NumGoroutine") = false) (vargs : Array Value) (w : World) : (callFunc F vargs).run PP w = .ok (.enter F vargs) w := by
 unfold callFunc
 rw [Aa (show program.run PP w = .ok PP w from rfl), hf]
 simp only [hname, hb, Bool.false_eq_true, if_false]
 rfl
theorem Bmp {fn s : List UInt8} {base bits : Int} {h : H} {k : KV} (hg : W1 (.func 224) [S fn, S s] h fun v h' => ∃ p, v = .ptr p 0 ∧ k (.iface 306 (.ptr p 0)) h') : W1 (.func 174) [S fn, S s, .int .i64 base, .int .i64 bits, .iface 304 (.int .i64 1)] h k := by
 intro μ w fn' vargs sim gl hfn hv
 have hfn' : fn' = .func 174 := by cases fn' <;> simp only [FnR] at hfn <;> first | (cases hfn; rfl) | cases hfn
 obtain ⟨v0, vs0, e0, ⟨f0, rfl, hf0⟩, v1, vs1, rfl, ⟨f1, rfl, hf1⟩, v2, vs2, rfl, hv2, v3, vs3, rfl, hv3, v4, vs4, rfl, ⟨y, rfl, hy⟩, h5⟩ := hv
 have hv2 : v2 = .int .i64 base := hv2
 have hv3 : v3 = .int .i64 bits := hv3
 have hy : y = .int .i64 1 := hy
 have h5 : vs4 = [] := h5
 subst hv2 hv3 hy h5
 have hva : vargs = #[.string f0, .string f1, .int .i64 base, .int .i64 bits, .iface 304 (.int .i64 1)] := by apply Array.ext'; simpa using e0
 subst hva
 refine .inl ⟨174, hfn', .inr ⟨Ajk Proofs.Tryz.func174 rfl (by kernel_rfl) _ _, ?_⟩⟩
 rcases hg μ w (.func 224) #[.string f0, .string f1] sim gl rfl ⟨_, _, rfl, ⟨f0, rfl, hf0⟩, _, _, rfl, ⟨f1, rfl, hf1⟩, rfl⟩ with ⟨f, hf, hh⟩ | ⟨l, F', tmps, qs, bd, e, _⟩
 case inr => cases e
 cases hf
 have he := Ajk Proofs.Tryz.func224 rfl (by kernel_rfl) #[.string f0, .string f1] w
 rcases hh with ⟨v, w', μ', av, h', h1, _⟩ | ⟨_, h2⟩
 · rw [he] at h1; cases h1
 · refine (Proofs.Tryz.Bb7 (Q := fun a w' => ∃ μ' p h', Sim μ' h' w' ∧ Cu μ h w μ' h' w' ∧ VR μ' (.ptr p 0) (.pointer (some a)) ∧ k (.iface 306 (.ptr p 0)) h') f0 f1 base bits w (h2.mono ?_)).mono ?_
   · rintro e w' ⟨v, μ', av, h', rfl, h3, h4, h5, p, rfl, h6⟩
     have h5' := h5
     obtain ⟨l, hl, rfl⟩ := h5
     exact ⟨_, rfl, μ', p, h', h3, h4, h5', h6⟩
   · rintro e w' ⟨a, rfl, μ', p, h', h3, h4, h5, h6⟩
     exact ⟨_, μ', .iface 306 (.ptr p 0), h', rfl, h3, h4, ⟨_, rfl, h5⟩, h6⟩
end Go.Den
