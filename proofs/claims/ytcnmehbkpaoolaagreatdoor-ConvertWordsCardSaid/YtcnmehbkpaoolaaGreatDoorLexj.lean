/-
 A part of the proof.
-/
import Derived.Test.YtcnmehbkpaoolaaGreatDoorLexi
namespace Go.Den
open Go.RowKit
set_option maxRecDepth 100000
open Go.Lx (Rn Hy)
def Alh (r : Rn) : List AV := [ub r.1, .int .i64 (.ofNat r.2.1), .int .i64 (.ofNat r.2.2)]
def cel (l : List Rn) : List (List AV) := l.map Alh
theorem Gl (l : List Rn) : (cel l).length = l.length := by unfold cel; rw [List.length_map]
theorem Kh {l : List Rn} {i : Nat} (h : i < l.length) (h' : i < (cel l).length) : (cel l)[i] = Alh l[i] := List.getElem_map ..
theorem Aj9 {x y : Rn} {r : List Rn} : Hy (x :: y :: r) = if x.1 = 92 ∧ y.1 = 10 then Hy r else x :: Hy (y :: r) := by rw [Hy]
theorem Arf {l : List Rn} {i : Nat} (h : i + 1 < l.length) (e : l[i].1 = 92) (e1 : l[i + 1].1 = 10) : Hy (l.drop i) = Hy (l.drop (i + 2)) := by
 rw [List.drop_eq_getElem_cons (show i < l.length by omega), List.drop_eq_getElem_cons h, Aj9, if_pos ⟨e, e1⟩]
theorem Axz {l : List Rn} {i : Nat} (h : i < l.length) (hs : ¬ (l[i].1 = 92 ∧ ∃ h1 : i + 1 < l.length, l[i + 1].1 = 10)) : Hy (l.drop i) = l[i] :: Hy (l.drop (i + 1)) := by
 rw [List.drop_eq_getElem_cons h]
 rcases Nat.lt_or_ge (i + 1) l.length with h1 | h1
 · rw [List.drop_eq_getElem_cons h1, Aj9, if_neg (fun e => hs ⟨e.1, h1, e.2⟩)]
 · rw [List.drop_eq_nil_of_le h1]; rw [Hy, Hy]
theorem Agl {hE : H} {l : List Rn} {v0 : AV} {k : KV} (hl : l.length ≤ 1000000) (hr : Rd 3 hE v0 (cel l)) :
 ∀ (n i : Nat) (acc : List Rn) {h : H} {v : AV}, 2 * (l.length - i) < n → i ≤ l.length → acc.length ≤ i → Exh hE h → Cv 174 3 hE.next.nat h v (cel acc) →
 (∀ h' v', Exh hE h' → Cv 174 3 hE.next.nat h' v' (cel (acc ++ Hy (l.drop i))) → k v' h') → (Zk W1 k n).a1 v0 v (Int.ofNat i) h
 | 0, _, _, _, _, hn, _, _, _, _, _ => absurd hn (Nat.not_lt_zero _)
 | n + 1, i, acc, h, v, hn, hi, ha, hx, hb, hk => by
  refine At1 ?_
  unfold Za
  have hr' := hr.ext hx
  rw [hr'.len, Gl, ilt]
  refine Bb (fun e => ?_) (fun e => ?_)
  · have e : i < l.length := of_decide_eq_true e
    have e' : i < (cel l).length := by rw [Gl]; exact e
    obtain ⟨m, rfl⟩ : ∃ m, n = m + 1 := ⟨n - 1, by omega⟩
    refine Zw (hr'.fld (j := 0) e' (by rw [Kh e]; exact Nat.zero_lt_succ _) ?_)
    simp only [Kh e, Alh, List.getElem_cons_zero]
    unfold ub
    rw [Au, Azc _ 92 (by decide)]
    refine Lq (b := decide (i + 1 < l.length)) (fun k' hk' => Fp (by omega) ?_) ?_
    · rw [hr'.len, Gl, ilt]; exact hk'
    have rest : ¬ (l[i].1 = 92 ∧ ∃ h1 : i + 1 < l.length, l[i + 1].1 = 10) → Cn (Int.ofNat i) fun m22 => Cc 3 m22 v0 fun v23 => ldn 3 v23 h fun v24 =>
     oK (An env 171 (fun e ei => Ak 1 [(0, v24)] h e ei)) fun v25 h26 => oK (Aq env .append [171, 171] [v, v25] h26) fun v27 h28 => (Zk W1 k (m + 1)).a2 v0 v27 (Int.ofNat i) h28 := fun hs => by
     refine Zw (hr'.all e' (by rw [Kh e]; rfl) ?_)
     rw [Kh e]
     unfold Alh
     refine Aoz hb (by rw [Gl]; omega) hx.1 fun v' h' hb' hk' => ?_
     refine At0 ?_
     unfold Yz
     refine Fp (by omega) ?_
     have ec : cel (acc ++ [l[i]]) = cel acc ++ [[ub l[i].1, .int .i64 (.ofNat l[i].2.1), .int .i64 (.ofNat l[i].2.2)]] := by unfold cel; rw [List.map_append]; rfl
     refine Agl hl hr m (i + 1) (acc ++ [l[i]]) (by omega) e (by rw [List.length_append, List.length_singleton]; omega) (hx.kp (Nat.le_refl _) hk') (by rw [ec]; exact hb') fun h2 v2 a b => ?_
     rw [Axz e hs] at hk
     refine hk h2 v2 a ?_
     rw [List.append_assoc] at b; exact b
    refine Gq (fun e2 => ?_) (fun e2 => ?_)
    · simp only [Bool.and_eq_true, decide_eq_true_eq] at e2
      have e2' : i + 1 < (cel l).length := by rw [Gl]; exact e2.2
      refine Fp (by omega) (Zw (hr'.fld (j := 0) e2' (by rw [Kh e2.2]; exact Nat.zero_lt_succ _) ?_))
      simp only [Kh e2.2, Alh, List.getElem_cons_zero]
      unfold ub
      rw [Au, Azc _ 10 (by decide)]
      refine Bb (fun e3 => ?_) (fun e3 => ?_)
      · have e3 : l[i + 1].1 = 10 := of_decide_eq_true e3
        refine Fp (by omega) ?_
        refine At0 ?_
        unfold Yz
        refine Fp (by omega) ?_
        rw [Arf e2.2 e2.1 e3] at hk
        exact Agl hl hr m (i + 2) acc (by omega) e2.2 (by omega) hx hb hk
      · exact rest fun hs => by
         obtain ⟨_, h1, h2⟩ := hs
         exact absurd h2 (of_decide_eq_false e3)
    · exact Bl rfl (rest fun hs => by
       obtain ⟨h0, h1, _⟩ := hs
       have h0 : l[i].1 = UInt8.ofNat 92 := h0
       rw [decide_eq_true h0, decide_eq_true h1] at e2; cases e2)
  · have e : ¬ i < l.length := of_decide_eq_false e
    rw [List.drop_eq_nil_of_le (by omega), show Hy [] = [] by rw [Hy], List.append_nil] at hk
    exact hk _ _ hx hb
end Go.Den
