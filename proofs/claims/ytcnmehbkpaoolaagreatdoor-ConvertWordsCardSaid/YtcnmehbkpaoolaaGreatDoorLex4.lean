/-
 A part of the proof.
-/
import Derived.Test.YtcnmehbkpaoolaaGreatDoorLex3
noncomputable section
namespace Go.Den
open Go.RowKit
set_option maxRecDepth 100000
def Ck : List (List UInt8) := [[37, 58, 37, 58], [46, 46, 46], [60, 60, 61], [62, 62, 61], [45, 62], [43, 43], [45, 45], [60, 60], [62, 62], [60, 61], [62, 61], [61, 61], [33, 61], [38, 38], [124, 124], [42, 61], [47, 61], [37, 61], [43, 61], [45, 61], [38, 61], [94, 61], [124, 61], [35, 35], [60, 58], [58, 62], [60, 37], [37, 62], [37, 58],
 [91], [93], [40], [41], [123], [125], [46], [38], [42], [43], [45], [126], [33], [47], [37], [60], [62], [94], [124], [63], [58], [59], [61], [44], [35]]
def T62 : Tm := Option.rec .e (fun t => t) (Ut (Sm 1) 54 [(0, (.str 4 975518245)), (1, (.str 3 3026478)), (2, (.str 3 4013116)), (3, (.str 3 4013630)), (4, (.str 2 15917)), (5, (.str 2 11051)), (6, (.str 2 11565)), (7, (.str 2 15420)), (8, (.str 2 15934)), (9, (.str 2 15676)), (10, (.str 2 15678)), (11, (.str 2 15677)), (12, (.str 2 15649)), (13, (.str 2 9766)), (14, (.str 2 31868)), (15, (.str 2 15658)), (16, (.str 2 15663)), (17, (.str 2 15653)), (18, (.str 2 15659)), (19, (.str 2 15661)), (20, (.str 2 15654)), (21, (.str 2 15710)), (22, (.str 2 15740)), (23, (.str 2 8995)), (24, (.str 2 14908)), (25, (.str 2 15930)), (26, (.str 2 9532)), (27, (.str 2 15909)), (28, (.str 2 14885)), (29, (.str 1 91)), (30, (.str 1 93)), (31, (.str 1 40)), (32, (.str 1 41)), (33, (.str 1 123)), (34, (.str 1 125)), (35, (.str 1 46)), (36, (.str 1 38)), (37, (.str 1 42)), (38, (.str 1 43)), (39, (.str 1 45)), (40, (.str 1 126)), (41, (.str 1 33)), (42, (.str 1 47)), (43, (.str 1 37)), (44, (.str 1 60)), (45, (.str 1 62)), (46, (.str 1 94)), (47, (.str 1 124)), (48, (.str 1 63)), (49, (.str 1 58)), (50, (.str 1 59)), (51, (.str 1 61)), (52, (.str 1 44)), (53, (.str 1 35))] (Ah (Je [.str 0 0] 54) 0 .e))
theorem Aqw : Cb T62 54 0 = Ck.map fun p => .str (len p) (enc p) := by kernel_rfl
theorem Blq {h : H} {k : KV} (hk : k (.slice h.next 0 54 1 true) (h.new (.row T62 54 0 9 true))) : W1 (.func 182) [] h k := by
 refine A9g (n := 1) Bj (Bjw ?_)
 unfold Adt
 rw [show An env 44 (fun e ei => Ak 54 [(0, (.str 4 975518245)), (1, (.str 3 3026478)), (2, (.str 3 4013116)), (3, (.str 3 4013630)), (4, (.str 2 15917)), (5, (.str 2 11051)), (6, (.str 2 11565)), (7, (.str 2 15420)), (8, (.str 2 15934)), (9, (.str 2 15676)), (10, (.str 2 15678)), (11, (.str 2 15677)), (12, (.str 2 15649)), (13, (.str 2 9766)), (14, (.str 2 31868)), (15, (.str 2 15658)), (16, (.str 2 15663)), (17, (.str 2 15653)), (18, (.str 2 15659)), (19, (.str 2 15661)), (20, (.str 2 15654)), (21, (.str 2 15710)), (22, (.str 2 15740)), (23, (.str 2 8995)), (24, (.str 2 14908)), (25, (.str 2 15930)), (26, (.str 2 9532)), (27, (.str 2 15909)), (28, (.str 2 14885)), (29, (.str 1 91)), (30, (.str 1 93)), (31, (.str 1 40)), (32, (.str 1 41)), (33, (.str 1 123)), (34, (.str 1 125)), (35, (.str 1 46)), (36, (.str 1 38)), (37, (.str 1 42)), (38, (.str 1 43)), (39, (.str 1 45)), (40, (.str 1 126)), (41, (.str 1 33)), (42, (.str 1 47)), (43, (.str 1 37)), (44, (.str 1 60)), (45, (.str 1 62)), (46, (.str 1 94)), (47, (.str 1 124)), (48, (.str 1 63)), (49, (.str 1 58)), (50, (.str 1 59)), (51, (.str 1 61)), (52, (.str 1 44)), (53, (.str 1 35))] h e ei)
  = some (.slice h.next 0 54 1 true, h.new (.row T62 54 0 9 true)) by kernel_rfl, Ae]
 exact hk
def es (l : List (List UInt8)) : List (List AV) := l.map fun x => [S x]
theorem Ny (l : List (List UInt8)) : (es l).length = l.length := by unfold es; simp
theorem Af6 {l : List (List UInt8)} {i : Nat} (h : i < l.length) (h' : i < (es l).length) : (es l)[i] = [S l[i]] := List.getElem_map (fun x => [S x]) (h := h')
theorem Biz (h : H) : Rd 1 (h.new (.row T62 54 0 9 true)) (.slice h.next 0 54 1 true) (es Ck) := by
 refine ⟨h.next, 0, T62, 54, 0, 9, true, true, rfl, by rw [Bg]; omega, Ax _ _, by rw [Ny]; decide, fun i hi => ?_⟩
 have hi' : i < Ck.length := by rw [Ny] at hi; exact hi
 rw [Af6 hi']
 refine ⟨rfl, fun j hj => ?_⟩
 have hj : j = 0 := by simp at hj; exact hj
 subst hj
 have e : Cb T62 54 0 = Ck.map fun p => S p := by
  rw [Aqw]
  refine List.map_congr_left fun p _ => ?_
  rw [Cz]
 have h1 : (Cb T62 54 0)[i]? = some (S Ck[i]) := by
  rw [e, List.getElem?_map, List.getElem?_eq_getElem hi']; rfl
 rw [Fw, List.getElem?_map, List.getElem?_range (show i < 54 from hi')] at h1
 have h2 := Option.some.inj h1
 show Az T62 (0 + i * 1 + 0) = _
 rw [show 0 + i * 1 + 0 = 0 + i by omega]; exact h2
theorem Rd.str {h : H} {v : AV} {l : List (List UInt8)} (hr : Rd 1 h v (es l)) {i : Nat} (hi : i < l.length) {K : AV → Prop} (hk : K (S l[i])) : Cc 1 i v fun a => Go.Den.ld1 a h K := by
 have hi' : i < (es l).length := by rw [Ny]; exact hi
 have hc := Af6 hi hi'
 refine hr.elem hi' fun q o _ _ ha => ?_
 have := ha.ld1 (j := 0) (K := K) (by rw [hc]; exact Nat.one_pos) (by simp only [hc, List.getElem_cons_zero]; exact hk)
 exact this
def pre (B : List UInt8) : Nat → List UInt8 → Bool
 | _, [] => true
 | i, x :: p => decide (bt B i = x) && pre B (i + 1) p
def Su (B : List UInt8) (i : Nat) : List (List UInt8) → Nat
 | [] => 0
 | p :: ps => if pre B i p = true then p.length else Su B i ps
theorem Bci : ∀ p ∈ Ck, p.length ≤ 4 := by decide
theorem Av0 {h : H} {v w : AV} {B : List UInt8} {i : Nat} {k : KV} (hr : Rs h v B) (hp : Rd 1 h w (es Ck)) (hi : i ≤ 1000000) : ∀ (n : Nat),
 (∀ q, q ≤ 54 → 12 * (54 - q) + 2 ≤ n → k (.int .i64 (Int.ofNat (Su B i (Ck.drop q)))) h → (Zh W1 k n).a1 v (Int.ofNat i) w (Int.ofNat q) h) ∧
 (∀ q (hq : q < Ck.length) j, j ≤ Ck[q].length → 12 * (54 - q) + 1 - j ≤ n → k (.int .i64 (Int.ofNat (if pre B (i + j) (Ck[q].drop j) = true then Ck[q].length else Su B i (Ck.drop (q + 1))))) h → (Zh W1 k n).a2 v (Int.ofNat i) w (Int.ofNat q) (Int.ofNat j) h)
 | 0 => ⟨fun q _ hn => absurd hn (by omega), fun q hq j hj hn => by
  have := Bci _ (List.getElem_mem hq)
  have hq' : q < 54 := hq
  omega⟩
 | n + 1 => by
  have ih := Av0 hr hp hi (k := k) n
  refine ⟨fun q hq hn hk => ?_, fun q hq j hj hn hk => ?_⟩
  · refine A4i ?_
    unfold Aeh
    rw [hp.len, Ny, ilt]
    refine Bb (fun e => ?_) (fun e => ?_)
    · have e : q < Ck.length := of_decide_eq_true e
      refine ih.2 q e 0 (Nat.zero_le _) (by omega) ?_
      rw [List.drop_eq_getElem_cons e] at hk
      exact hk
    · have e : ¬ q < Ck.length := of_decide_eq_false e
      rw [List.drop_eq_nil_of_le (by omega)] at hk; exact hk
  · have hq' : q ≤ 53 := Nat.le_of_lt_succ hq
    have hl4 := Bci _ (List.getElem_mem hq)
    refine A4h ?_
    unfold Aeg
    rw [As]
    refine hp.str hq ?_
    rw [Ce, ilt]
    refine Gq (fun e => ?_) (fun e => ?_)
    · have e : j < Ck[q].length := of_decide_eq_true e
      rw [Dk, Cm (by omega), Ar, As]
      have hq2 : q < (es Ck).length := by rw [Ny]; exact hq
      have hc := Af6 hq hq2
      refine hp.elem hq2 fun b o _ _ ha => ?_
      have ld : ∀ {K : AV → Prop}, K (S (Ck[q]'hq)) → ld1 (.ptr b o) h K := fun {K} hK => by
       have := ha.ld1 (j := 0) (K := K) (by rw [hc]; exact Nat.one_pos) (by simp only [hc, List.getElem_cons_zero]; exact hK)
       exact this
      refine ld ?_
      rw [Ce, As]
      refine Ch e ?_
      refine La hr ?_
      unfold ub
      rw [Au]
      refine ld ?_
      rw [Ce]
      have heq : ∀ {A : Prop}, A → eqC (S (Ck[q]'hq)) (S (Ck[q]'hq)) A := fun {A} hA => by
       show Bool.rec Aj A (Oy 4 (S (Ck[q]'hq)) (S (Ck[q]'hq)))
       have : Oy 4 (S (Ck[q]'hq)) (S (Ck[q]'hq)) = true := by
        show Ai (Nat.beq _ _) (Nat.beq _ _) = true
        rw [Nat.beq_refl, Nat.beq_refl]; rfl
       rw [this]; exact hA
      refine heq ?_
      have hd : (Ck[q]'hq).drop j = (Ck[q]'hq)[j] :: (Ck[q]'hq).drop (j + 1) := List.drop_eq_getElem_cons e
      rw [hd] at hk
      rw [Ov]
      refine Bb (fun e2 => ?_) (fun e2 => ?_)
      · rw [Dk, Cm (by omega), Ar]
        refine ih.2 q hq (j + 1) e (by omega) ?_
        show k (.int .i64 (Int.ofNat (if pre B (i + j + 1) _ = true then _ else _))) h
        have : pre B (i + j) ((Ck[q]'hq)[j] :: (Ck[q]'hq).drop (j + 1)) = pre B (i + j + 1) ((Ck[q]'hq).drop (j + 1)) := by
         show (decide (bt B (i + j) = (Ck[q]'hq)[j]) && _) = _
         rw [e2, Bool.true_and]
        rw [this] at hk; exact hk
      · refine hp.str hq ?_
        rw [Ce, Sr, decide_eq_false (by omega)]
        refine Bl rfl ?_
        rw [Dk, Cm (by omega), Ar]
        refine ih.1 (q + 1) hq (by omega) ?_
        have : pre B (i + j) ((Ck[q]'hq)[j] :: (Ck[q]'hq).drop (j + 1)) = false := by
         show (decide (bt B (i + j) = (Ck[q]'hq)[j]) && _) = _
         rw [e2, Bool.false_and]
        rw [this, if_neg Bool.false_ne_true] at hk; exact hk
    · have e : j = (Ck[q]'hq).length := by have := of_decide_eq_false e; omega
      refine Bl rfl ?_
      rw [As]
      refine hp.str hq ?_
      rw [Ce, Sr, decide_eq_true e]
      refine Cd rfl ?_
      rw [e, List.drop_length] at hk
      rw [e]
      exact hk
theorem Blz {h : H} {v : AV} {B : List UInt8} {i : Nat} {k : KV} (hr : Rs h v B) (hi : i ≤ 1000000) (hk : ∀ h', Exh h h' → k (.int .i64 (Int.ofNat (Su B i Ck))) h') : W1 (.func 135) [v, .int .i64 (Int.ofNat i)] h k := by
 refine A9s (n := 1000) Bj (Bj8 ?_)
 unfold Aei
 refine Blq ?_
 exact (Av0 (hr.ext Exh.new) (Biz h) hi 999).1 0 (by omega) (by omega) (hk _ Exh.new)
end Go.Den
