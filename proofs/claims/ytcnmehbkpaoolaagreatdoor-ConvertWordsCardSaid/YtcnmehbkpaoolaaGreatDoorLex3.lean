/-
 A part of the proof.
-/
import Derived.Test.YtcnmehbkpaoolaaGreatDoorLex2
namespace Go.Den
open Go.RowKit
set_option maxRecDepth 100000
theorem Bfq (v : AV) (h : H) : Gf env h 115 9 v = Yg env 115 v h := by kernel_rfl
theorem cvb (b : P) (o n : Nat) (h : H) : Rc env 115 b o n h = (Option.rec none (fun cs => My h (Ej cs)) (h.read b o n) : Option (AV × H)) := by kernel_rfl
theorem Ab0 (h : H) (l : List UInt8) : My h (Ej (ubs l)) = some (S l, h) := by
 rw [Vj]
 show some (strOf (l.map (·.toNat)), h) = _
 rw [Aj6]
theorem Zf {h : H} {q : P} {t : Tm} {m z n : Nat} {e : TypeId} {w : Bool} (ha : h.at q = .row t m z e w) (hn : n ≤ m) : h.read q 0 n = some (Cb t n 0) := by
 unfold Hp.read Hp.Iq
 rw [ha]
 show (Pk 0 n none some t m : Option (List AV)) = _
 unfold Pk
 rw [show Nat.ble (Nat.add 0 n) m = true from Nat.ble_eq_true_of_le (by show 0 + n ≤ m; omega)]
theorem Aje {h : H} {q : P} {t : Tm} {m z : Nat} {w : Bool} {l : List UInt8} {ti : Bool} (ha : h.at q = .row t m z TB w) (hm : l.length ≤ m) (hc : Ds t l) : Gf env h 115 9 (.slice q 0 l.length 1 ti) = some (S l, h) := by
 rw [Bfq]
 show Rc env 115 q 0 l.length h = _
 rw [cvb, Zf ha hm, hc.get]
 exact Ab0 h l
def eb (l : List UInt8) : List (List AV) := l.map fun x => [ub x]
theorem Lv (l : List UInt8) : (eb l).length = l.length := by unfold eb; simp
theorem Azp (l : List UInt8) (x : UInt8) : eb (l ++ [x]) = eb l ++ [[ub x]] := by unfold eb; simp
theorem Agb {l : List UInt8} {i : Nat} (h : i < l.length) (h' : i < (eb l).length) : (eb l)[i] = [ub l[i]] := List.getElem_map (fun x => [ub x]) (h := h')
theorem Azw {lo : Nat} {h : H} {v : AV} {l : List UInt8} (hb : Cv TB 1 lo h v (eb l)) : Gf env h 115 9 v = some (S l, h) := by
 rcases hb with ⟨rfl, e⟩ | ⟨q, t, m, z, w, rfl, h1, h2, h3, h4, h5, h6⟩
 · have : l = [] := by cases l with
    | nil => rfl
    | cons x l => exact absurd e (by unfold eb; simp)
   subst this
   rw [Bfq]; rfl
 · rw [Lv] at h4
   rw [Lv]
   refine Aje h3 (by omega) fun i hi => ?_
   have := (h6 i (by rw [Lv]; exact hi)).2 0 (by rw [Agb hi]; exact Nat.one_pos)
   simp only [Agb hi, List.getElem_cons_zero] at this
   rw [← this]
   congr 1; omega
theorem Awl {lo : Nat} {h : H} {v : AV} {l : List UInt8} {x : UInt8} (hb : Cv TB 1 lo h v (eb l)) (hl : l.length + 1 ≤ 1099511627776) (hlo : lo ≤ h.next.nat) {k : KV} (hk : ∀ v' h', Cv TB 1 lo h' v' (eb (l ++ [x])) → Kp TB lo h h' → k v' h') :
 oK (An env 115 (fun e ei => Ak 1 [(0, .int .u8 (Int.ofNat x.toNat))] h e ei)) fun x h' => oK (Aq env .append [115, 115] [v, x] h') k := by
 rw [Bgg, Ae, A1q]
 exact Ags (ds := [ub x]) hb rfl (by rfl) (Aiv (by rw [Lv]; exact hl)) hlo (by rw [← Azp]; exact hk)
theorem A1d {hE : H} {B : List UInt8} {v0 : AV} {k : KV} (hl : B.length ≤ 1000000) (hr : Rs hE v0 B) (hk : ∀ h', Exh hE h' → k (S B) h') : ∀ (n i : Nat) {h : H} {v : AV}, B.length - i < n → i ≤ B.length → Exh hE h → Cv TB 1 hE.next.nat h v (eb (B.take i)) → (r81 W1 k n).a1 v0 v (Int.ofNat i) h
 | 0, _, _, _, hn, _, _, _ => absurd hn (Nat.not_lt_zero _)
 | n + 1, i, h, v, hn, hi, hx, hb => by
  refine Bc1 ?_
  unfold Amd
  have hr' := hr.ext hx
  rw [hr'.len, ilt]
  refine Bb (fun e => ?_) (fun e => ?_)
  · have e : i < B.length := of_decide_eq_true e
    rw [As]
    refine hr'.at0 e ?_
    unfold ub
    rw [Au]
    refine Awl hb (by rw [List.length_take]; omega) hx.1 fun v' h' hb' hk' => ?_
    rw [Dk, Cm (by omega), Ar]
    refine A1d hl hr hk n (i + 1) (by omega) e (hx.kp (Nat.le_refl _) hk') ?_
    rw [List.take_succ_eq_append_getElem e]; exact hb'
  · have e : i = B.length := by have := of_decide_eq_false e; omega
    subst e
    rw [List.take_length] at hb
    rw [Azw hb, Ae]
    exact hk _ hx
theorem c81 {B : List UInt8} {v0 : AV} {h : H} {k : KV} (hl : B.length ≤ 1000000) (hr : Rs h v0 B) (hk : ∀ h', Exh h h' → k (S B) h') : W1 (.func 81) [v0] h k := by
 refine w81 (n := B.length + 2) Bj (g81 ?_)
 unfold Ame
 exact A1d hl hr hk _ 0 (by omega) (Nat.zero_le _) Exh.refl (.inl ⟨rfl, rfl⟩)
def Ui (B : List UInt8) (i : Nat) : Int :=
 if decide (bt B i = 34) || decide (bt B i = 39) then Int.ofNat 0
 else if (decide (bt B i = 117) && decide (bt B (i + 1) = 56)) && decide (bt B (i + 2) = 34) then Int.ofNat 2
 else if ((decide (bt B i = 76) || decide (bt B i = 117)) || decide (bt B i = 85)) && (decide (bt B (i + 1) = 34) || decide (bt B (i + 1) = 39)) then Int.ofNat 1
 else Int.negSucc 0
theorem Sq (x : UInt8) (n : Nat) (y : UInt8) (hy : y.toNat = n) : Ba (Int.ofNat x.toNat) (Int.ofNat n) = decide (x = y) := by
 subst hy; exact Ov x y
theorem Bl0 {h : H} {v : AV} {B : List UInt8} {i : Nat} {k : KV} (hr : Rs h v B) (hi : i ≤ 1000000) (hk : k (.int .i64 (Ui B i)) h) : W1 (.func 130) [v, .int .i64 (Int.ofNat i)] h k := by
 refine A9x (n := 1) Bj (Bkd ?_)
 unfold Aep
 refine La hr ?_
 unfold ub
 rw [Au]
 refine Jg ?_
 rw [Sq _ 34 34 rfl, Sq _ 39 39 rfl]
 unfold Ui at hk
 refine Bb (fun e => ?_) (fun e => ?_)
 · rw [if_pos e] at hk; exact hk
 rw [if_neg (by rw [e]; exact Bool.false_ne_true)] at hk
 refine Lq (b := decide (bt B (i + 1) = 56)) (fun k' hk' => ?_) ?_
 · rw [Dk, Cm (by omega), Ar]
   refine La hr ?_
   unfold ub
   rw [Au, Sq _ 56 56 rfl]; exact hk'
 refine Lq (b := decide (bt B (i + 2) = 34)) (fun k' hk' => ?_) ?_
 · rw [Dk, Cm (by omega), Ar]
   refine La hr ?_
   unfold ub
   rw [Au, Sq _ 34 34 rfl]; exact hk'
 rw [Sq _ 117 117 rfl]
 refine Bb (fun e => ?_) (fun e => ?_)
 · rw [if_pos e] at hk; exact hk
 rw [if_neg (by rw [e]; exact Bool.false_ne_true)] at hk
 refine Jg ?_
 refine Jg ?_
 refine Lq (b := (decide (bt B (i + 1) = 34) || decide (bt B (i + 1) = 39))) (fun k' hk' => ?_) ?_
 · rw [Dk, Cm (by omega), Ar]
   refine La hr ?_
   unfold ub
   rw [Au]
   refine Ou (b := decide (bt B (i + 1) = 39)) (fun k'' hk'' => ?_) ?_
   · rw [Ar]
     refine La hr ?_
     unfold ub
     rw [Au, Sq _ 39 39 rfl]; exact hk''
   rw [Sq _ 34 34 rfl]; exact hk'
 rw [Sq _ 76 76 rfl, Sq _ 85 85 rfl]
 refine Bb (fun e => ?_) (fun e => ?_)
 · rw [if_pos e] at hk; exact hk
 · rw [if_neg (by rw [e]; exact Bool.false_ne_true)] at hk; exact hk
theorem A76 {h : H} {v : AV} {B : List UInt8} {i : Nat} {k : KV} (hr : Rs h v B) (hi : i ≤ 1000000) (hc : bt B i ≠ 47 ∨ (bt B (i + 1) ≠ 47 ∧ bt B (i + 1) ≠ 42)) (hk : k (.tuple [.int .i64 (Int.ofNat i), .bool false]) h) : W1 (.func 79) [v, .int .i64 (Int.ofNat i)] h k := by
 refine w79 (n := 1) Bj (g79 ?_)
 unfold Ahf
 refine La hr ?_
 unfold ub
 rw [Au, Sq _ 47 47 rfl]
 refine Bb (fun e => hk) (fun e => ?_)
 have e : bt B i = 47 := by
  by_cases h' : bt B i = 47
  · exact h'
  · rw [show Co (decide (bt B i = 47)) = true by rw [decide_eq_false h']; rfl] at e; cases e
 have hc : bt B (i + 1) ≠ 47 ∧ bt B (i + 1) ≠ 42 := by
  rcases hc with hc | hc
  · exact absurd e hc
  · exact hc
 rw [Dk, Cm (by omega), Ar]
 refine La hr ?_
 unfold ub
 rw [Au, Sq _ 47 47 rfl, decide_eq_false hc.1]
 refine Bl rfl ?_
 rw [Ar]
 refine La hr ?_
 unfold ub
 rw [Au, Sq _ 42 42 rfl, decide_eq_false hc.2]
 exact Cd rfl hk
end Go.Den
