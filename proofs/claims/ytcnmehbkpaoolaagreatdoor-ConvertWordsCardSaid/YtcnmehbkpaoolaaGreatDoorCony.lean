/-
 A part of the proof.
-/
import Derived.Test.YtcnmehbkpaoolaaGreatDoorConx
namespace Go.Den
open Go.RowKit
set_option maxRecDepth 100000
theorem Tb {L : List Ef} {i : Nat} (h : i < L.length) (h' : i < (L.map Ef.cells).length) : (L.map Ef.cells)[i] = L[i].cells := List.getElem_map ..
theorem Rd.tok {hE h : H} {vL : AV} {L : List Ef} {i : Nat} {K : AV → Prop} (hr : Rd 8 hE vL (L.map Ef.cells)) (x : Exh hE h) (hi : i < L.length) (hk : K (.agg L[i].cells)) : Cc 8 i vL fun a => Go.Den.ldn 8 a h K := by
 have hi' : i < (L.map Ef.cells).length := by rw [List.length_map]; exact hi
 refine (hr.ext x).all hi' (by rw [Tb hi]; rfl) ?_
 rw [Tb hi]; exact hk
section
variable {hE : H} {L : List Ef} {vL : AV} {B p1 p2 : P} {O : List CT} {D : List DT} {a : Nat} {xa : Ef} {G : GS} {k : KV}
 (hr : Rd 8 hE vL (L.map Ef.cells)) (hLen : L.length ≤ 400) (htx : ∀ x ∈ L, x.text.length ≤ 1000)
 (hO : O.length ≤ 200000) (hD : D.length ≤ 200000)
 (hfin : ∀ h', Exh hE h' → Mk (fun _ => True) hE.next.nat B vL (if G.cnt = 0 then O else O ++ [⟨6, G.first ++ Sk G.acc, xa.file, xa.f, xa.t, a, G.cnt⟩]) (if G.cnt = 0 then D ++ G.ds ++ [xa.dt] else D ++ G.ds) h' → k (.int .i64 (Int.ofNat (if G.cnt = 0 then a + 1 else a + G.used))) h')
include hr hLen htx hO hD hfin
theorem Bf2 (n : Nat) : ∀ (i : Nat) (g : GS) {h : H}, 3 * (L.length - i) + 2 ≤ n → a ≤ i → i ≤ L.length → g.used + a ≤ i → g.cnt ≤ i - a → g.acc.length ≤ 1000 * g.cnt → g.first.length ≤ 2 → g.ds.length ≤ i - a → Et (L.drop i) (i - a) g = G → LI hE B p1 p2 vL O D xa a g h →
 (r34 W1 k n).a1 (.ptr B 0) (Int.ofNat a) (.ptr p1 0) (.ptr p2 0) g.first.length (enc g.first) g.told (Int.ofNat (a + g.used)) (Int.ofNat i) h := by
 induction n using Nat.strongRecOn with
 | _ n ih =>
  intro i g h hn hai hi hu hc hacc hfl hds hG li
  obtain ⟨n, rfl⟩ : ∃ m, n = m + 2 := ⟨n - 2, by omega⟩
  have fin : Et (L.drop i) (i - a) g = g → ∀ h', Exh h h' → (r34 W1 k (n + 1)).a4 (.ptr B 0) (Int.ofNat a) (.ptr p1 0) (.ptr p2 0) g.first.length (enc g.first) (Int.ofNat (a + g.used)) h' := fun hg h' x => by
   rw [hg] at hG
   subst hG
   exact Bf1 hO hD (by omega) hfin (by omega) hacc (by omega) hfl (by omega) (li.exh x)
  refine Bdk ?_
  unfold Ana
  rw [Bi, Ae, Ay]
  refine Atp li.mkr ?_
  rw [hr.len, List.length_map, ilt]
  refine Bb (fun e => ?_) (fun e => ?_)
  · have e : i < L.length := of_decide_eq_true e
    have hx := htx _ (List.getElem_mem e)
    have hdrop : L.drop i = L[i] :: L.drop (i + 1) := List.drop_eq_getElem_cons e
    rw [hdrop] at hG fin
    unfold Et at hG fin
    rw [Bi, Ae, Ay]
    refine Atp li.mkr ?_
    rw [As]
    refine hr.tok li.ext e (Ec ?_)
    refine Afo (e := 43) (zs := [(.int .i64 (Int.ofNat 0)), (.str 0 0), (.bool false), (.str 0 0), (.int .i64 (Int.ofNat 0)), (.int .i64 (Int.ofNat 0)), (.bool false), .Ad]) rfl rfl (by decide) fun h1 x1 n1 at1 => ?_
    rw [Ay]
    refine at1.kd ?_
    rw [Au, Abk]
    have next : ∀ (m : Nat) (g' : GS) (h' : H), m ≤ n → 3 * (L.length - (i + 1)) + 2 ≤ m → g'.used + a ≤ i + 1 → g'.cnt ≤ i + 1 - a → g'.acc.length ≤ 1000 * g'.cnt → g'.first.length ≤ 2 → g'.ds.length ≤ i + 1 - a → Et (L.drop (i + 1)) (i - a + 1) g' = G → LI hE B p1 p2 vL O D xa a g' h' →
     (r34 W1 k (m + 1)).a3 (.ptr B 0) (Int.ofNat a) (.ptr p1 0) (.ptr p2 0) g'.first.length (enc g'.first) g'.told (Int.ofNat (a + g'.used)) (Int.ofNat i) h' := fun m g' h' hmn hm b1 b2 b3 b4 b5 b6 b7 => by
     refine Bdi ?_
     unfold Am8
     rw [Dk, Cm (by omega), Ar]
     exact ih m (by omega) (i + 1) g' hm (by omega) e b1 b2 b3 b4 b5 (by rw [show i + 1 - a = i - a + 1 by omega]; exact b6) b7
    refine Bb (fun e7 => ?_) (fun e7 => ?_)
    · have e7 : L[i].kind = 7 := of_decide_eq_true e7
      rw [if_pos e7] at hG
      exact next n g h1 (Nat.le_refl _) (by omega) (by omega) (by omega) hacc hfl (by omega) hG (li.exh x1)
    · have e7 : ¬ L[i].kind = 7 := of_decide_eq_false e7
      rw [if_neg e7] at hG fin
      rw [Ay]
      refine at1.tx ?_
      rw [Ce]
      refine Dn (c59 L[i].text (by omega)) ?_ rfl (by cases Lf L[i].text <;> rfl)
      have hbyt : ∃ w, Aqk (Lf L[i].text) = .tuple [S w, .bool (Lf L[i].text).isSome] ∧ ∀ b, Lf L[i].text = some b → w = b := by
       cases Lf L[i].text with
       | none => exact ⟨[], rfl, fun b h => by cases h⟩
       | some b => exact ⟨b, rfl, fun b' h => by cases h; rfl⟩
      obtain ⟨w, hw1, hw2⟩ := hbyt
      rw [hw1, Ed, Ce, Ek, Bv, Ay]
      refine at1.kd ?_
      rw [Au, Abk]
      refine Ou (b := Co (Lf L[i].text).isSome) (fun k' hk' => hk') ?_
      refine Bb (fun e4 => ?_) (fun e4 => ?_)
      · refine fin ?_ h1 x1
        rw [Bq, Bq, Bool.or_eq_true, Bool.not_eq_true', Bool.not_eq_true'] at e4
        rcases e4 with e4 | e4
        · rw [if_neg (show ¬ L[i].kind = 4 from of_decide_eq_false e4)]
        · have hn : Lf L[i].text = none := by cases hb : Lf L[i].text with
           | none => rfl
           | some b => rw [hb] at e4; cases e4
          rw [hn]
          split <;> rfl
      · rw [Bq, Bq, Bool.or_eq_false_iff, Bool.not_eq_false', Bool.not_eq_false'] at e4
        have ek : L[i].kind = 4 := of_decide_eq_true e4.1
        obtain ⟨b, hb⟩ := Option.isSome_iff_exists.1 e4.2
        have hwb : w = b := hw2 b hb
        subst hwb
        rw [if_pos ek, hb] at hG
        simp only [] at hG
        have hbl := Av4 hb
        have hll := Aif L[i].text
        rw [Ay]
        refine at1.tx ?_
        rw [Ce]
        refine Dn (c60 L[i].text) ?_
        rw [Ed, Ce, Ek, Bv]
        have li1 := li.exh x1
        have toA2 : ∀ (F : List UInt8) (T : Bool) (E : List DT) (h2 : H) (m : Nat), g.add L[i] w (i - a + 1) = ⟨F, T, g.acc ++ w, g.cnt + 1, i - a + 1, E⟩ → E.length ≤ g.ds.length + 1 → F.length ≤ 2 → m ≤ n → 3 * (L.length - (i + 1)) + 2 ≤ m → LI hE B p1 p2 vL O D xa a { g with ds := E } h2 →
         (r34 W1 k (m + 2)).a2 (.ptr B 0) (Int.ofNat a) (.ptr p1 0) (.ptr p2 0) F.length (enc F) T (Int.ofNat i) w.length (enc w) h2 := fun F T E h2 m hadd hE' hF hmn hm li2 => by
         refine Bdj ?_
         unfold Am9
         refine Ble li2.bld (Nat.le_trans li2.l1 (Nat.le_of_lt li2.n1)) (by show g.acc.length + w.length ≤ 1099511627776; omega) fun v h3 b3 f3 => ?_
         obtain ⟨tt, t1, t2⟩ := li2.tok
         obtain ⟨tb, u1, u2, u3, u4, u5⟩ := li2.bld
         have hp12 : p1 ≠ p2 := fun e => by rw [e, u1] at t1; cases t1
         have t1' : h3.at p1 = .row tt 7 0 40 true := by rw [f3.2 p1 li2.n1 hp12 (.inr fun t m z w e => by rw [t1] at e; cases e)]; exact t1
         rw [Ay]
         refine Ct t1' (by decide) ?_
         rw [show Az tt (0 + 6) = .int .i64 (.ofNat g.cnt) from t2 6 (by decide), Au, Dk, Cm (by omega), Ar, Dk, Cm (by omega), Ar, Ay]
         refine Pf t1' (Nat.zero_le _) (by decide) rfl ?_
         rw [show Int.ofNat (i + 1) = Int.ofNat (a + (i - a + 1)) by congr 1; omega]
         have hnext := next m ⟨F, T, g.acc ++ w, g.cnt + 1, i - a + 1, E⟩ (h3.put p1 (.row (Ah [.int .i64 (Int.ofNat (g.cnt + 1))] (0 + 6) tt) 7 0 40 true)) hmn hm (by show i - a + 1 + a ≤ i + 1; omega) (by show g.cnt + 1 ≤ i + 1 - a; omega) (by show (g.acc ++ w).length ≤ 1000 * (g.cnt + 1); rw [List.length_append]; omega) hF (by show E.length ≤ i + 1 - a; omega) (by rw [← hadd]; exact hG)
         refine hnext ⟨?_, ?_, ⟨_, Bn _ _ _, fun j hj => ?_⟩, li2.l1, by rw [Da]; exact Nat.lt_of_lt_of_le li2.n1 f3.1, ?_, li2.l2⟩
         · refine li2.mkr.mono (by rw [Da]; exact f3.1) fun c hc hl hh => ?_
           have hcp : c ≠ p1 := fun e => by
            subst e
            rcases hh with ⟨t, m, z, w, hh⟩ | ⟨_, o, n, z, b, hh⟩ | ⟨t, m, z, w, hh⟩ | hh
            · rw [t1] at hh; cases hh
            · exact hh _ _ _ _ rfl
            · rw [t1] at hh; cases hh
            · rw [t1] at hh; cases hh
           have hcp2 : c ≠ p2 := fun e => by
            subst e
            rcases hh with ⟨_, _, _, _, hh⟩ | ⟨⟨_, _, _, _, hh⟩, _⟩ | ⟨_, _, _, _, hh⟩ | hh <;> (rw [u1] at hh; cases hh)
           rw [Br hcp, f3.2 c hc hcp2 (.inr fun t m z w e => ?_)]
           rcases hh with ⟨_, _, _, _, hh⟩ | ⟨⟨_, _, _, _, hh⟩, _⟩ | ⟨_, _, _, _, hh⟩ | hh <;> (rw [e] at hh; cases hh)
         · refine ⟨by rw [Da]; exact Nat.le_trans li2.ext.1 f3.1, fun c hc => ?_⟩
           have hl1 := li2.l1
           have hl2 := li2.l2
           rw [Br (fun e => by subst e; omega), f3.2 c (Nat.lt_of_lt_of_le hc li2.ext.1) (fun e => by subst e; omega) (.inl hc), li2.ext.2 c hc]
         · rw [Ao]
           by_cases e : j = 6
           · subst e; rw [if_pos (by simp)]; rfl
           · rw [if_neg (by simp; omega), t2 j hj]
             match j, hj, e with
             | 0, _, _ | 1, _, _ | 2, _, _ | 3, _, _ | 4, _, _ | 5, _, _ => rfl
             | 6, _, e => exact absurd rfl e
         · refine b3.mono (by rw [Da]; exact Nat.le_refl _) fun c hc hh => Br fun e => ?_
           subst e
           rcases hh with ⟨_, _, _, _, hh⟩ | ⟨_, _, _, _, hh⟩ <;> (rw [t1'] at hh; cases hh)
        obtain ⟨m, rfl⟩ : ∃ m, n = m + 1 := ⟨n - 1, by omega⟩
        refine Ou (b := decide ((Bf L[i].text).1 = g.first)) (fun k' hk' => by rw [Cq]; exact hk') ?_
        rw [Fk]
        refine Bb (fun e1 => ?_) (fun e1 => ?_)
        · rw [Bool.or_eq_true, decide_eq_true_eq, decide_eq_true_eq] at e1
          exact toA2 g.first g.told g.ds h1 m (by unfold GS.add; rw [if_pos e1]) (by omega) hfl (by omega) (by omega) li1
        · rw [Bool.or_eq_false_iff, decide_eq_false_iff_not, decide_eq_false_iff_not] at e1
          have e1' : ¬ ((Bf L[i].text).1 = [] ∨ (Bf L[i].text).1 = g.first) := fun h => h.elim e1.1 e1.2
          rw [Fk]
          refine Bb (fun e2 => ?_) (fun e2 => ?_)
          · have e2 : g.first = [] := of_decide_eq_true e2
            exact toA2 (Bf L[i].text).1 g.told g.ds h1 m (by unfold GS.add; rw [if_neg e1', if_pos e2]) (by omega) hll (by omega) (by omega) li1
          · have e2 : ¬ g.first = [] := of_decide_eq_false e2
            rw [Bq]
            refine Bb (fun e3 => ?_) (fun e3 => ?_)
            · have e3 : g.told = false := by simpa using e3
              rw [Ay]
              refine at1.sp ?_
              refine c36 (x := L[i].dt) li1.mkr (by rw [List.length_append]; omega) fun h2 m2 f2 => ?_
              have hm1 := li1.mkr
              obtain ⟨_, _, _, _, hBa, hBn, hB, _⟩ := hm1
              refine toA2 g.first true (g.ds ++ [L[i].dt]) h2 m (by unfold GS.add; rw [if_neg e1', if_neg e2, if_neg (by rw [e3]; decide)]) (by simp) hfl (by omega) (by omega) ⟨by rw [← List.append_assoc]; exact m2, ?_, ?_, li1.l1, Nat.lt_of_lt_of_le li1.n1 f2.1, ?_, li1.l2⟩
              · refine ⟨Nat.le_trans li1.ext.1 f2.1, fun c hc => ?_⟩
                rw [f2.2 c (Nat.lt_of_lt_of_le hc li1.ext.1) (fun e => by subst e; omega) (.inl hc), li1.ext.2 c hc]
              · obtain ⟨tt, t1, t2⟩ := li1.tok
                exact ⟨tt, by rw [f2.2 p1 li1.n1 (fun e => by rw [e, hBa] at t1; cases t1) (.inr fun t m z w e => by rw [t1] at e; cases e)]; exact t1, t2⟩
              · refine li1.bld.mono f2.1 fun c hc hh => f2.2 c hc (fun e => ?_) (.inr fun t m z w e => ?_)
                · subst e
                  rcases hh with ⟨_, _, _, _, hh⟩ | ⟨_, _, _, _, hh⟩ <;> (rw [hBa] at hh; cases hh)
                · rcases hh with ⟨_, _, _, _, hh⟩ | ⟨_, _, _, _, hh⟩ <;> (rw [e] at hh; cases hh)
            · have e3 : g.told = true := by simpa using e3
              exact toA2 g.first g.told g.ds h1 m (by unfold GS.add; rw [if_neg e1', if_neg e2, if_pos e3]) (by omega) hfl (by omega) (by omega) li1
  · have e : i = L.length := by have := of_decide_eq_false e; omega
    refine fin ?_ h .refl
    rw [e, List.drop_length]; rfl
end
end Go.Den
