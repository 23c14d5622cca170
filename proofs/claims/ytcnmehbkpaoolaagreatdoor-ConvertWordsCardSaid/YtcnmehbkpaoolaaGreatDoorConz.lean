/-
 A part of the proof.
-/
import Derived.Test.YtcnmehbkpaoolaaGreatDoorCony
namespace Go.Den
open Go.RowKit
set_option maxRecDepth 100000
theorem Ayv {h : H} {e : TypeId} {zs cs : List AV} {c : Nat} {K : H → Prop} (hz : zs.length = c) (hc : cs.length = c) (h1 : 1 ≤ c) (hk : ∀ h', Exh h h' → h.next.nat < h'.next.nat → h'.at h.next = .row (Ah cs 0 (Ah zs 0 .e)) c 0 e true → K h') : stn c (.ptr h.next 0) (.agg cs) (h.new (rowOf e zs)) K := by
 have ha : (h.new (rowOf e zs)).at h.next = .row (Ah zs 0 .e) c 0 e true := by
  rw [Ax]; unfold rowOf; rw [Cz, hz]
 refine Tq ha (Nat.le_refl _) hc h1 (by omega) (hk _ ⟨by rw [Da, Bg]; omega, fun d hd => ?_⟩ (by rw [Da, Bg]; omega) (Bn _ _ _))
 rw [Br (fun e' => by subst e'; omega), Df hd]
def RdT (h : H) (v : AV) (L : List Ef) : Prop := (v = .Ad ∧ L = []) ∨ Rd 8 h v (L.map Ef.cells)
theorem RdT.len {h : H} {v : AV} {L : List Ef} (hr : RdT h v L) {K : Nat → Prop} : Ep v K = K L.length := by
 rcases hr with ⟨rfl, rfl⟩ | hr
 · rfl
 · rw [hr.len, List.length_map]
theorem RdT.sl {h : H} {v : AV} {L : List Ef} (hr : RdT h v L) : Sl v := by
 rcases hr with ⟨rfl, _⟩ | ⟨q, o, t, m, z, e, w, b, rfl, _⟩
 · exact .inl rfl
 · exact .inr ⟨_, _, _, _, _, rfl⟩
theorem RdT.rd {h : H} {v : AV} {L : List Ef} (hr : RdT h v L) {i : Nat} (hi : i < L.length) : Rd 8 h v (L.map Ef.cells) := by
 rcases hr with ⟨_, rfl⟩ | hr
 · exact absurd hi (Nat.not_lt_zero _)
 · exact hr
theorem Apv {x : Ef} {p : Nat × List UInt8} (h : Gv x = some p) : p.1 ≠ 0 := by
 unfold Gv at h
 split at h
 · split at h <;> (cases h; simp)
 · split at h
   · split at h
     · cases h; simp
     · split at h
       · cases h; simp
       · cases h
   · split at h
     · split at h
       · cases h; simp
       · cases h
     · split at h
       · cases e : Ho x.text with
         | none => rw [e] at h; cases h
         | some u => rw [e] at h; cases h; simp
       · cases h
theorem c34 {hE : H} {L : List Ef} {vL : AV} {B : P} {O : List CT} {D : List DT} {a : Nat} {k : KV} {h : H}
 (hr : Rd 8 hE vL (L.map Ef.cells)) (hLen : L.length ≤ 400) (htx : ∀ x ∈ L, x.text.length ≤ 1000) (hO : O.length ≤ 200000) (hD : D.length ≤ 200000) (ha : a < L.length) (m : Mk (fun _ => True) hE.next.nat B vL O D h) (x : Exh hE h)
 (hfin : ∀ h', Exh hE h' → Mk (fun _ => True) hE.next.nat B vL (if (Et (L.drop a) 0 g0).cnt = 0 then O else O ++ [⟨6, (Et (L.drop a) 0 g0).first ++ Sk (Et (L.drop a) 0 g0).acc, L[a].file, L[a].f, L[a].t, a, (Et (L.drop a) 0 g0).cnt⟩]) (if (Et (L.drop a) 0 g0).cnt = 0 then D ++ (Et (L.drop a) 0 g0).ds ++ [L[a].dt] else D ++ (Et (L.drop a) 0 g0).ds) h' → k (.int .i64 (Int.ofNat (if (Et (L.drop a) 0 g0).cnt = 0 then a + 1 else a + (Et (L.drop a) 0 g0).used))) h') :
 W1 (.func 34) [.ptr B 0, .int .i64 (Int.ofNat a)] h k := by
 refine w34 (n := 3 * L.length + 3 + 1) Bj (g34 ?_)
 unfold Anb
 rw [Bi, Ae, Ay]
 refine Atp m ?_
 have hi' : a < (L.map Ef.cells).length := by rw [List.length_map]; exact ha
 rw [As]
 refine (hr.ext x).elem hi' fun q o hq _ hat => ?_
 rw [Tb ha] at hat
 rw [Ay]
 refine hat.A3y (j := 3) (c := 3) (by show 3 + 3 ≤ 8; decide) ?_
 show oK (Bm env (env.ty 40) [(0, (.int .i64 (Int.ofNat 6))), (2, .agg [S L[a].file, .int .i64 L[a].f, .int .i64 L[a].t]), (3, (.int .i64 (Int.ofNat a)))] h) _
 rw [A5f, Ae]
 refine Ec ?_
 refine Ayv (e := 40) (zs := [(.int .i64 (Int.ofNat 0)), (.str 0 0), (.str 0 0), (.int .i64 (Int.ofNat 0)), (.int .i64 (Int.ofNat 0)), (.int .i64 (Int.ofNat 0)), (.int .i64 (Int.ofNat 0))]) rfl rfl (by decide) fun h1 x1 n1 a1 => ?_
 have hlo := m.hlo
 have hmv := (m.avoid (p := h.next) (Nat.le_refl _)).ext x1
 refine Ec ?_
 have x2 : Exh h1 (h1.new Wt) := .new
 have := Bf2 (p1 := h.next) (p2 := h1.next) (xa := L[a]) hr hLen htx hO hD hfin (3 * L.length + 3) a g0 (h := h1.new Wt) (by omega) (Nat.le_refl _) (by omega) (by show 0 + a ≤ a; omega) (by show 0 ≤ _; omega) (by show 0 ≤ _; omega) (by show 0 ≤ 2; omega) (by show 0 ≤ _; omega) (by rw [Nat.sub_self]) ⟨?_, (x.trans x1).trans x2, ⟨_, by rw [x2.2 _ n1]; exact a1, Ko _ rfl _⟩, hlo, Nat.lt_of_lt_of_le n1 x2.1, Wp.new _ _, by have := x1.1; omega⟩
 · exact this
 · show Mk _ _ _ _ _ (D ++ []) _
   rw [List.append_nil]; exact hmv.ext x2
theorem Afy : ∀ (l : List Ef) (k : Nat) (g : GS), (Et l k g).cnt = 0 → g.cnt = 0 ∧ (Et l k g).ds = g.ds
 | [], _, g, h => ⟨h, rfl⟩
 | x :: l, k, g, h => by
  unfold Et at h ⊢
  split at h
  · rename_i e
    rw [if_pos e]
    exact Afy l _ _ h
  · rename_i e
    rw [if_neg e]
    split at h
    · rename_i e4
      rw [if_pos e4]
      split at h
      · rename_i hb
        exact ⟨h, rfl⟩
      · rename_i b hb
        have := (Afy l _ _ h).1
        rw [(g.Ao0 x b (k + 1)).1] at this
        omega
    · rename_i e4
      rw [if_neg e4]
      exact ⟨h, rfl⟩
section
variable {hE : H} {L : List Ef} {vL : AV} {B : P} {k : KV} (hr : RdT hE vL L) (hLen : L.length ≤ 400) (htx : ∀ x ∈ L, x.text.length ≤ 1000) (he : Kl hE)
include hr hLen htx he
theorem Bf6 (n : Nat) : ∀ (i : Nat) (O : List CT) (D : List DT) {h : H}, 2 * (L.length - i) + 1 ≤ n → i ≤ L.length → O.length ≤ i → D.length ≤ 402 * i → Exh hE h → Mk (fun _ => True) hE.next.nat B vL O D h →
 (∀ h' vo vd, Exh hE h' → Cv 40 7 hE.next.nat h' vo ((O ++ (Dl (L.drop i) i 0).1).map CT.cells) → Cv 48 4 hE.next.nat h' vd ((D ++ (Dl (L.drop i) i 0).2).map DT.cells) → k (.tuple [vo, vd]) h') →
 (r16 W1 k n).a1 vL (.ptr B 0) (Int.ofNat i) h := by
 induction n using Nat.strongRecOn with
 | _ n ih =>
  intro i O D h hn hi hOl hDl x m hk
  obtain ⟨n, rfl⟩ : ∃ m, n = m + 1 := ⟨n - 1, by omega⟩
  have hB : hE.next.nat ≤ B.nat := by obtain ⟨_, _, _, _, _, _, hB, _⟩ := m; exact hB
  have hE13 := he.2.2
  have hasE : ∀ h', Exh hE h' → Kl h' := fun h' x' => he.keep x'.1 x'.2
  refine Bdm ?_
  unfold Ani
  rw [hr.len, ilt]
  refine Bb (fun e => ?_) (fun e => ?_)
  · have e : i < L.length := of_decide_eq_true e
    have hdrop : L.drop i = L[i] :: L.drop (i + 1) := List.drop_eq_getElem_cons e
    have hx := htx _ (List.getElem_mem e)
    rw [As]
    refine (hr.rd e).tok x e (Ec ?_)
    refine Afo (e := 43) (zs := [(.int .i64 (Int.ofNat 0)), (.str 0 0), (.bool false), (.str 0 0), (.int .i64 (Int.ofNat 0)), (.int .i64 (Int.ofNat 0)), (.bool false), .Ad]) rfl rfl (by decide) fun h1 x1 n1 at1 => ?_
    have m1 := m.ext x1
    have xE1 := x.trans x1
    rw [Ay]
    refine at1.kd ?_
    rw [Au, Abk]
    have hconv : Dl (L.drop i) i 0 = (if L[i].kind = 4 then
     (if (Et (L[i] :: L.drop (i + 1)) 0 g0).cnt = 0 then ((Dl (L.drop (i + 1)) (i + 1) 0).1, L[i].dt :: (Dl (L.drop (i + 1)) (i + 1) 0).2)
     else (⟨6, (Et (L[i] :: L.drop (i + 1)) 0 g0).first ++ Sk (Et (L[i] :: L.drop (i + 1)) 0 g0).acc, L[i].file, L[i].f, L[i].t, i, (Et (L[i] :: L.drop (i + 1)) 0 g0).cnt⟩ :: (Dl (L.drop (i + 1)) (i + 1) ((Et (L[i] :: L.drop (i + 1)) 0 g0).used - 1)).1, (Et (L[i] :: L.drop (i + 1)) 0 g0).ds ++ (Dl (L.drop (i + 1)) (i + 1) ((Et (L[i] :: L.drop (i + 1)) 0 g0).used - 1)).2))
     else if L[i].kind = 7 then Dl (L.drop (i + 1)) (i + 1) 0
     else match Gv L[i] with
      | none => ((Dl (L.drop (i + 1)) (i + 1) 0).1, L[i].dt :: (Dl (L.drop (i + 1)) (i + 1) 0).2)
      | some p => (⟨p.1, p.2, L[i].file, L[i].f, L[i].t, i, 1⟩ :: (Dl (L.drop (i + 1)) (i + 1) 0).1, (Dl (L.drop (i + 1)) (i + 1) 0).2)) := by
     rw [hdrop, Dl]
     rfl
    rw [hconv] at hk
    have go2 : ∀ (O' : List CT) (D' : List DT) (h' : H), O'.length ≤ i + 1 → D'.length ≤ 402 * (i + 1) → Exh hE h' → Mk (fun _ => True) hE.next.nat B vL O' D' h' →
     (∀ h'' vo vd, Exh hE h'' → Cv 40 7 hE.next.nat h'' vo ((O' ++ (Dl (L.drop (i + 1)) (i + 1) 0).1).map CT.cells) → Cv 48 4 hE.next.nat h'' vd ((D' ++ (Dl (L.drop (i + 1)) (i + 1) 0).2).map DT.cells) → k (.tuple [vo, vd]) h'') → (r16 W1 k n).a2 vL (.ptr B 0) (Int.ofNat i) h' := fun O' D' h' b1 b2 b3 b4 b5 => by
     obtain ⟨m, rfl⟩ : ∃ m, n = m + 1 := ⟨n - 1, by omega⟩
     refine Bdl ?_
     unfold Anh
     rw [Dk, Cm (by omega), Ar]
     exact ih m (by omega) (i + 1) O' D' (by omega) e b1 b2 b3 b4 b5
    refine Bb (fun e4 => ?_) (fun e4 => ?_)
    · have e4 : L[i].kind = 4 := of_decide_eq_true e4
      rw [if_pos e4, ← hdrop] at hk
      refine c34 (hr.rd e) hLen htx (by omega) (by omega) e m1 xE1 fun h2 x2 m2 => ?_
      rw [Au]
      have gb := Pz (L.drop i) 0 g0 (Nat.le_refl _) (Nat.le_refl _) (Nat.le_refl _) (fun h => absurd rfl h)
      rw [List.length_drop, Nat.zero_add] at gb
      have hds0 := Afy (L.drop i) 0 g0
      by_cases ec : (Et (L.drop i) 0 g0).cnt = 0
      · have d0 : (Et (L.drop i) 0 g0).ds = [] := (hds0 ec).2
        rw [if_pos ec] at hk
        rw [if_pos ec, if_pos ec, d0, List.append_nil] at m2
        rw [if_pos ec]
        refine ih n (by omega) (i + 1) O (D ++ [L[i].dt]) (by omega) e (by omega) (by rw [List.length_append, List.length_singleton]; omega) x2 m2 fun h' vo vd y1 y2 y3 => hk h' vo vd y1 y2 ?_
        rw [List.append_assoc] at y3; exact y3
      · rw [if_neg ec] at hk
        rw [if_neg ec, if_neg ec] at m2
        rw [if_neg ec]
        have hu := gb.2.2.2 ec
        have hsk : Dl (L.drop (i + 1)) (i + 1) ((Et (L.drop i) 0 g0).used - 1) = Dl (L.drop (i + (Et (L.drop i) 0 g0).used)) (i + (Et (L.drop i) 0 g0).used) 0 := by
         rw [Aau _ _ _ (by rw [List.length_drop]; omega), List.drop_drop]
         congr 1
         · congr 1; omega
         · omega
        rw [hsk] at hk
        refine ih n (by omega) (i + (Et (L.drop i) 0 g0).used) _ (D ++ (Et (L.drop i) 0 g0).ds) (by omega) (by omega) ?_ (by rw [List.length_append]; omega) x2 m2 fun h' vo vd y1 y2 y3 => hk h' vo vd y1 ?_ ?_
        · rw [List.length_append, List.length_singleton]; omega
        · rw [List.append_assoc] at y2; exact y2
        · rw [List.append_assoc] at y3; exact y3
    · have e4 : ¬ L[i].kind = 4 := of_decide_eq_false e4
      rw [if_neg e4] at hk
      refine at1.tok ?_
      refine c35 L[i] (by omega) (hasE _ xE1) m1 hr.sl hE13 fun h2 m2 f2 => ?_
      have xE2 : Exh hE h2 := ⟨Nat.le_trans xE1.1 f2.1, fun c hc => by rw [f2.2 c (Nat.lt_of_lt_of_le hc xE1.1) (fun e => by subst e; omega), xE1.2 c hc]⟩
      have hnB : h.next ≠ B := fun e => by obtain ⟨_, _, _, _, _, hb, _⟩ := m; rw [← e] at hb; omega
      have at2 : AtP h2 h.next 0 L[i].cells := at1.frame (f2.2 _ n1 hnB)
      have hkn : ∀ K : AV → AV → Prop, K (.int .i64 (.ofNat ((Gv L[i]).getD (0, [])).1)) (S ((Gv L[i]).getD (0, [])).2) → ext 0 (Aik (Gv L[i])) fun v22 => ext 1 (Aik (Gv L[i])) fun v24 => K v22 v24 := fun K hK => by
       cases hkp : Gv L[i] with
       | none => rw [hkp] at hK; exact hK
       | some p => rw [hkp] at hK; exact hK
      have hkn0 : ∀ K : AV → Prop, K (.int .i64 (.ofNat ((Gv L[i]).getD (0, [])).1)) → ext 0 (Aik (Gv L[i])) K := fun K hK => by
       cases hkp : Gv L[i] with
       | none => rw [hkp] at hK; exact hK
       | some p => rw [hkp] at hK; exact hK
      have hkn1 : ∀ K : AV → Prop, K (S ((Gv L[i]).getD (0, [])).2) → ext 1 (Aik (Gv L[i])) K := fun K hK => by
       cases hkp : Gv L[i] with
       | none => rw [hkp] at hK; exact hK
       | some p => rw [hkp] at hK; exact hK
      refine hkn0 _ ?_
      rw [Au]
      refine hkn1 _ ?_
      rw [Ce, Ay]
      refine at2.kd ?_
      rw [Au, Abk]
      refine Bb (fun e7 => ?_) (fun e7 => ?_)
      · have e7 : L[i].kind = 7 := of_decide_eq_true e7
        rw [if_pos e7] at hk
        exact go2 O D h2 (by omega) (by omega) xE2 m2 hk
      · have e7 : ¬ L[i].kind = 7 := of_decide_eq_false e7
        rw [if_neg e7] at hk
        rw [Sr]
        cases hkp : Gv L[i] with
        | none =>
         rw [hkp] at hk
         refine Cd rfl ?_
         rw [Ay]
         refine at2.sp ?_
         refine c36 (x := L[i].dt) m2 (by omega) fun h3 m3 f3 => ?_
         refine go2 O (D ++ [L[i].dt]) h3 (by omega) (by rw [List.length_append, List.length_singleton]; omega) ⟨Nat.le_trans xE2.1 f3.1, fun c hc => by rw [f3.2 c (Nat.lt_of_lt_of_le hc xE2.1) (fun e => by subst e; omega) (.inl hc), xE2.2 c hc]⟩ m3 fun h' vo vd y1 y2 y3 => hk h' vo vd y1 y2 ?_
         rw [List.append_assoc] at y3; exact y3
        | some p =>
         rw [hkp] at hk
         have hp0 := Apv hkp
         refine Bl (decide_eq_false hp0) ?_
         obtain ⟨y2, hy, hout⟩ := m2.out (x := ⟨p.1, p.2, L[i].file, L[i].f, L[i].t, i, 1⟩) (by omega) (k := fun h50 => (r16 W1 k n).a2 vL (.ptr B 0) (Int.ofNat i) h50) (fun h' m' n' f' => by
          refine go2 _ D h' (by rw [List.length_append, List.length_singleton]; omega) (by omega) ⟨Nat.le_trans xE2.1 n', fun c hc => by rw [f' c hc, xE2.2 c hc]⟩ m' fun h' vo vd y1 y2 y3 => hk h' vo vd y1 ?_ y3
          rw [List.append_assoc] at y2; exact y2)
         rw [Bi, Ae, Ay]
         refine hy _ ?_
         rw [Ay]
         refine at2.sp ?_
         show oK (Bm env (env.ty 40) [(0, (.int .i64 (.ofNat p.1))), (1, (.str p.2.length (enc p.2))), (2, .agg [.str L[i].file.length (enc L[i].file), .int .i64 L[i].f, .int .i64 L[i].t]), (3, (.int .i64 (Int.ofNat i))), (4, (.int .i64 (Int.ofNat 1)))] h2) _
         rw [Bd0, Ae]
         exact hout
  · have e : i = L.length := by have := of_decide_eq_false e; omega
    rw [e, List.drop_length] at hk
    have hlo := m.hlo
    obtain ⟨tb, y2, y3, W, a1, a2, a3, a4, a5, a6, a7, a8⟩ := m
    rw [Bi, Ae, Ay]
    refine Ct a1 (by decide) ?_
    rw [(a4.g4 a5.len).2.1, hr.len, A5g, Ae, Bi, Ae, Ay]
    refine Ct a1 (by decide) ?_
    rw [(a4.g4 a5.len).2.2, A1j, Ae]
    generalize hR : (Ob.row (Ah [.int .i64 (.ofNat 8), .str 0 0, .str 0 0, .int .i64 (.ofNat 0), .int .i64 (.ofNat 0), .int .i64 (Int.ofNat L.length), .int .i64 (.ofNat 0)] 0 Z40) 7 0 40 true : Ob FT) = R
    have x2 : Exh h (h.new R) := .new
    have a1' : (h.new R).at B = .row tb 7 0 98 true := by rw [x2.2 B a2]; exact a1
    refine Ct a1' (by decide) ?_
    rw [(a4.g4 a5.len).2.1, Aat a6.sl]
    refine Ct a1' (by decide) ?_
    rw [(a4.g4 a5.len).2.2, Aat a7.sl, A1r]
    refine Awj (ds := CT.cells ⟨8, [], [], 0, 0, L.length, 0⟩) (a6.ext x2) rfl Bbe (Aum (by rw [List.length_map]; omega)) (by rw [Bg]; omega) (by rw [← hR]; rfl) rfl fun v' h3 b3 x3 => ?_
    have hBn : B.nat < (h.new R).next.nat := by rw [Bg]; omega
    have a1'' : h3.at B = .row tb 7 0 98 true := by rw [x3.2 B hBn (.inr fun t m z w e => by rw [a1'] at e; cases e)]; exact a1'
    refine Ct a1'' (by decide) ?_
    rw [(a4.g4 a5.len).2.2, Aat a7.sl]
    have n3 := x3.1
    have n2 := x2.1
    refine hk h3 v' y3 ⟨by have := x.1; omega, fun c hc => ?_⟩ ?_ ?_
    · have := x.1
      rw [x3.2 c (by omega) (.inl hc), x2.2 c (by omega), x.2 c hc]
    · rw [List.map_append]; exact b3
    · show Cv 48 4 _ _ _ ((D ++ []).map DT.cells)
      rw [List.append_nil]
      exact (a7.ext x2).kps x3 (by decide)
theorem c16 (hk : ∀ h' vo vd, Exh hE h' → Cv 40 7 hE.next.nat h' vo ((Dl L 0 0).1.map CT.cells) → Cv 48 4 hE.next.nat h' vd ((Dl L 0 0).2.map DT.cells) → k (.tuple [vo, vd]) h') : W1 (.func 16) [vL] hE k := by
 refine w16 (n := 2 * L.length + 2 + 1) Bj (g16 ?_)
 unfold Anj
 rw [Bdu vL hr.sl, Ae, Vr]
 refine Xd (by unfold Iv; simp) (Ec ?_)
 have ha : (hE.new (rowOf 98 (Iv ++ [vL, .Ad, .Ad]))).at hE.next = .row (Ah (Iv ++ [vL, .Ad, .Ad]) 0 .e) 7 0 98 true := by
  rw [Ax]; unfold rowOf; rw [Cz]; rfl
 refine Bf6 hr hLen htx he (2 * L.length + 2) 0 [] [] (by omega) (Nat.zero_le _) (Nat.le_refl _) (Nat.le_refl _) .new ⟨_, .Ad, .Ad, Iv, ha, by rw [Bg]; omega, Nat.le_refl _, Ko _ rfl _, .inl rfl, .inl ⟨rfl, rfl⟩, .inl ⟨rfl, rfl⟩, trivial⟩ ?_
 exact hk
end
end Go.Den
