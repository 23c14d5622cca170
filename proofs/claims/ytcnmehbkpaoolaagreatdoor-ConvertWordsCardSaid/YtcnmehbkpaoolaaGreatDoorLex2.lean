/-
 A part of the proof.
-/
import Derived.Test.YtcnmehbkpaoolaaGreatDoorLex1
noncomputable section
namespace Go.Den
open Go.RowKit
set_option maxRecDepth 100000
def Ox (t : TypeId) : TI := Option.rec ei8 (fun t => t) (env.ty t)
theorem Wi {ei : TI} {n : Nat} (h1 : Ai (Nat.beq (len ei.zero) ei.size) (Nat.ble 1 ei.size) = true) (hb : Nat.ble ei.bytes 128 = true) (hn : n ≤ 1099511627776) : Cf ei n = true := by
 have hb := Nat.le_of_ble_eq_true hb
 have e : Cf ei n = Ai (Ai (Nat.beq (len ei.zero) ei.size) (Nat.ble 1 ei.size)) (Ai (Nat.ble n 1099511627776) (Nat.ble (Nat.mul n ei.bytes) 140737488355328)) := rfl
 have h3 : n * ei.bytes ≤ 1099511627776 * 128 := Nat.mul_le_mul hn hb
 rw [e, h1, Nat.ble_eq_true_of_le hn, Nat.ble_eq_true_of_le (show Nat.mul n ei.bytes ≤ 140737488355328 from h3)]; rfl
def Z69 : Tm := Ah [.int .u8 (.ofNat 0), .int .i64 (.ofNat 0), .int .i64 (.ofNat 0)] 0 .e
theorem Bgc (a b c : AV) (h : H) : An env 171 (fun e ei => Ak 1 [(0, .agg [a, b, c])] h e ei) = some (.slice h.next 0 1 3 true, h.new (.row (Ah [a, b, c] 0 Z69) 3 0 174 true)) := by kernel_rfl
theorem Bgs (x y : AV) (h : H) : Aq env .append [171, 171] [x, y] h = Dc (some false) x y h 174 (Ox 174) := by kernel_rfl
theorem Aut (a b c : Int) (h : H) : Bm env (env.ty 174) [(0, .int .u8 a), (1, .int .i64 b), (2, .int .i64 c)] h = some (.agg [.int .u8 a, .int .i64 b, .int .i64 c], h) := by kernel_rfl
theorem Bio : (Ox 174).size = 3 := by kernel_rfl
theorem A46 {n : Nat} (hn : n ≤ 1099511627776) : Cf (Ox 174) n = true := Wi (by kernel_rfl) (by kernel_rfl) hn
theorem Aoz {lo : Nat} {h : H} {v : AV} {L : List (List AV)} {a b c : AV} (hb : Cv 174 3 lo h v L) (hl : L.length + 1 ≤ 1099511627776) (hlo : lo ≤ h.next.nat) {k : KV} (hk : ∀ v' h', Cv 174 3 lo h' v' (L ++ [[a, b, c]]) → Kp 174 lo h h' → k v' h') :
 oK (An env 171 (fun e ei => Ak 1 [(0, .agg [a, b, c])] h e ei)) fun x h' => oK (Aq env .append [171, 171] [v, x] h') k := by
 rw [Bgc, Ae, Bgs]
 exact Ags hb rfl Bio (A46 hl) hlo hk
def rn (x : UInt8) (i j : Nat) : List AV := [ub x, .int .i64 (.ofNat i), .int .i64 (.ofNat j)]
def Rns (L : List (List AV)) (B : List UInt8) : Prop := L.length = B.length ∧ ∀ i (hi : i < B.length) (hi' : i < L.length), ∃ f t : Nat, f ≤ 1000001 ∧ t ≤ 1000001 ∧ L[i] = rn B[i] f t
def Rs (h : H) (v : AV) (B : List UInt8) : Prop := ∃ L, Rd 3 h v L ∧ Rns L B
theorem Rs.ext {h h' : H} {v : AV} {B : List UInt8} (hr : Rs h v B) (hx : Exh h h') : Rs h' v B := by
 obtain ⟨L, a, b⟩ := hr; exact ⟨L, a.ext hx, b⟩
def bt (B : List UInt8) (i : Nat) : UInt8 := B.getD i 0
theorem Vm {B : List UInt8} {i : Nat} (h : i < B.length) : bt B i = B[i] := by unfold bt; rw [List.getD_eq_getElem?_getD, List.getElem?_eq_getElem h]; rfl
theorem Sd {B : List UInt8} {i : Nat} (h : B.length ≤ i) : bt B i = 0 := by unfold bt; rw [List.getD_eq_getElem?_getD, List.getElem?_eq_none h]; rfl
theorem Rs.at0 {h : H} {v : AV} {B : List UInt8} (hr : Rs h v B) {i : Nat} (hi : i < B.length) {K : AV → Prop} (hk : K (ub B[i])) : Cc 3 i v fun a => Ap 0 a fun a => ld1 a h K := by
 obtain ⟨L, r, hL⟩ := hr
 have e' : i < L.length := by rw [hL.1]; exact hi
 obtain ⟨f, t, _, _, hc⟩ := hL.2 i hi e'
 refine r.fld (j := 0) e' (by rw [hc]; exact Nat.zero_lt_succ _) ?_
 simp only [hc, rn, List.getElem_cons_zero]
 exact hk
theorem Rs.len {h : H} {v : AV} {B : List UInt8} (hr : Rs h v B) {K : Nat → Prop} : Ep v K = K B.length := by
 obtain ⟨L, r, hL⟩ := hr
 rw [r.len, hL.1]
theorem La {h : H} {v : AV} {B : List UInt8} {i : Nat} {k : KV} (hr : Rs h v B) (hk : k (ub (bt B i)) h) : W1 (.func 129) [v, .int .i64 (Int.ofNat i)] h k := by
 refine A9y (n := 1) Bj (Bke ?_)
 unfold Aeq
 refine Ou (b := decide (B.length ≤ i)) (fun k' hk' => ?_) ?_
 · rw [hr.len, ile]; exact hk'
 rw [show Cu (Int.ofNat i) (Int.ofNat 0) = false by rw [ilt]; simp, Bool.false_or]
 refine Bb (fun e => ?_) (fun e => ?_)
 · have e := of_decide_eq_true e
   rw [Sd e] at hk; exact hk
 · have e := of_decide_eq_false e
   rw [As]
   refine hr.at0 (by omega) ?_
   unfold ub
   rw [Au]
   rw [Vm (by omega)] at hk; exact hk
def Bd (x : UInt8) : Bool := (decide (97 ≤ x.toNat) && decide (x.toNat ≤ 122)) || (decide (65 ≤ x.toNat) && decide (x.toNat ≤ 90)) || decide (x.toNat = 95)
def isDigit (x : UInt8) : Bool := decide (48 ≤ x.toNat) && decide (x.toNat ≤ 57)
def Fg (x : UInt8) : Bool := decide (x.toNat = 32) || decide (x.toNat = 9) || (decide (11 ≤ x.toNat) && decide (x.toNat ≤ 13))
theorem A8c (x : UInt8) : Pure PP G h0 132 [ub x] (.bool (Bd x)) := by
 refine A9v (n := 1) Bj (Bkb ?_)
 unfold Aem
 refine Sf ?_
 refine Ou (b := (decide (65 ≤ x.toNat) && decide (x.toNat ≤ 90))) (fun k' hk' => ?_) ?_
 · refine Sf ?_; rw [ile, ile]; exact hk'
 refine Jg ?_
 rw [ile, ile, Sr]; rfl
theorem Az5 (x : UInt8) : Pure PP G h0 133 [ub x] (.bool (isDigit x)) := by
 refine A9u (n := 1) Bj (Bka ?_)
 unfold Ael
 refine Sf ?_
 rw [ile, ile]; rfl
theorem c78 (x : UInt8) : Pure PP G h0 78 [ub x] (.bool (Fg x)) := by
 refine w78 (n := 1) Bj (g78 ?_)
 unfold Amk
 refine Jg ?_
 refine Ou (b := (decide (11 ≤ x.toNat) && decide (x.toNat ≤ 13))) (fun k' hk' => ?_) ?_
 · refine Sf ?_; rw [ile, ile]; exact hk'
 rw [Sr, Sr]; rfl
end Go.Den
