/-
 A part of the proof.
-/
import Derived.Test.YtcnmehbkpaoolaaGreatDoorConw
noncomputable section
namespace Go.Den
open Go.RowKit
set_option maxRecDepth 100000
theorem Wm {q : UInt8} : ∀ (n : Nat) (s b : List UInt8), Gp q n s = some b → b.length ≤ s.length
 | 0, _, _, h => by simp [Gp] at h
 | n + 1, [], b, h => by simp [Gp] at h; subst h; simp
 | n + 1, c :: r, b, h => by
  unfold Gp at h
  split at h
  · cases h
  · split at h
    · split at h
      · cases h
      · cases e : Gp q n (r.drop (En r).2) with
        | none => rw [e] at h; cases h
        | some b' =>
         rw [e] at h; cases h
         have := Wm n _ _ e
         rw [List.length_drop] at this
         simp only [List.length_cons]; omega
    · cases e : Gp q n r with
      | none => rw [e] at h; cases h
      | some b' =>
       rw [e] at h; cases h
       have := Wm n _ _ e
       simp only [List.length_cons]; omega
theorem Av4 {s b : List UInt8} (h : Lf s = some b) : b.length ≤ s.length := by
 unfold Lf at h
 split at h
 · unfold Aff at h
   split at h
   · cases h
   · rename_i q r e
     split at h
     · cases h
     · split at h
       · have h1 := Wm _ _ _ h
         have h2 := congrArg List.length e
         rw [List.length_drop, List.length_cons] at h2
         rw [List.length_dropLast] at h1
         omega
       · cases h
 · cases h
theorem Uj (s : List UInt8) : ∀ ps, (∀ p ∈ ps, p.length ≤ 2) → (Db ps s).1.length ≤ 2
 | [], _ => by show (0 : Nat) ≤ 2; omega
 | p :: ps, h => by
  unfold Db
  split
  · exact h p (by simp)
  · exact Uj s ps fun q hq => h q (by simp [hq])
theorem Aif (s : List UInt8) : (Bf s).1.length ≤ 2 := Uj s Oj (by decide)
theorem Asv (s : List UInt8) : (Sk s).length ≤ 2 * s.length + 2 := by
 unfold Sk
 have h1 := Mi s
 have h2 : s.countP isQ ≤ s.length := List.countP_le_length
 simp only [List.length_cons, List.length_append, List.length_nil]; omega
theorem Wp.mono {lo : Nat} {h h' : H} {b : P} {l : List UInt8} (hb : Wp lo h b l) (hn : h.next.nat ≤ h'.next.nat) (hf : ∀ c, c.nat < h.next.nat → ((∃ t m z w, h.at c = .row t m z 149 w) ∨ (∃ t m z w, h.at c = .row t m z TB w)) → h'.at c = h.at c) : Wp lo h' b l := by
 obtain ⟨t, a1, a2, a3, a4, a5⟩ := hb
 exact ⟨t, by rw [hf b a2 (.inl ⟨_, _, _, _, a1⟩)]; exact a1, by omega, a3, a4.frame hn fun c hc _ t m z w ha => hf c hc (.inr ⟨_, _, _, _, ha⟩), a5⟩
theorem Mk.avoid {Y : AV → Prop} {lo : Nat} {B p : P} {vL : AV} {O : List CT} {D : List DT} {h : H} (m : Mk Y lo B vL O D h) (hp : h.next.nat ≤ p.nat) : Mk (fun y => ∀ o n z b, y ≠ .slice p o n z b) lo B vL O D h := by
 obtain ⟨tb, y2, y3, W, a1, a2, a3, a4, a5, a6, a7, _⟩ := m
 refine ⟨tb, y2, y3, W, a1, a2, a3, a4, a5, a6, a7, fun o n z b e => ?_⟩
 rcases a6 with ⟨rfl, _⟩ | ⟨q, _, _, _, _, rfl, _, h2, _⟩
 · cases e
 · cases e; omega
theorem Mk.any {Y : AV → Prop} {lo : Nat} {B : P} {vL : AV} {O : List CT} {D : List DT} {h : H} (m : Mk Y lo B vL O D h) : Mk (fun _ => True) lo B vL O D h := by
 obtain ⟨tb, y2, y3, W, a1, a2, a3, a4, a5, a6, a7, _⟩ := m
 exact ⟨tb, y2, y3, W, a1, a2, a3, a4, a5, a6, a7, trivial⟩
theorem Mk.out {lo : Nat} {B : P} {vL : AV} {O : List CT} {D : List DT} {h : H} {Y : AV → Prop} {x : CT} (m : Mk Y lo B vL O D h) (hl : O.length + 1 ≤ 1099511627776) {k : H → Prop} (hk : ∀ h', Mk (fun _ => True) lo B vL (O ++ [x]) D h' → h.next.nat ≤ h'.next.nat → (∀ c, c.nat < lo → h'.at c = h.at c) → k h') :
 ∃ y2, (∀ K : AV → Prop, K y2 → ld1 (.ptr B (0 + 5)) h K) ∧ oK (An env 25 (fun e ei => Ak 1 [(0, .agg x.cells)] h e ei)) fun v42 h43 => ld1 (.ptr B (0 + 5)) h43 fun v44 => eqC v44 y2 <| oK (Aq env .append [25, 25] [y2, v42] h43) fun v45 h46 => oK (Cj (.ptr B 0) h46) fun v47 h48 => Ap 5 v47 fun v49 => st1 v49 v45 h48 k := by
 have hlo := m.hlo
 obtain ⟨tb, y2, y3, W, a1, a2, a3, a4, a5, a6, a7, a8⟩ := m
 refine ⟨y2, fun K hK => Ct a1 (by decide) (by rw [(a4.g4 a5.len).2.1]; exact hK), ?_⟩
 unfold CT.cells
 rw [A1j, Ae]
 generalize hR : (Ob.row (Ah [.int .i64 (.ofNat x.kind), S x.text, S x.file, .int .i64 x.f, .int .i64 x.t, .int .i64 (.ofNat x.frm), .int .i64 (.ofNat x.cnt)] 0 Z40) 7 0 40 true : Ob FT) = R
 have x2 : Exh h (h.new R) := .new
 have a1' : (h.new R).at B = .row tb 7 0 98 true := by rw [x2.2 B a2]; exact a1
 refine Ct a1' (by decide) ?_
 rw [(a4.g4 a5.len).2.1, Aat a6.sl, A1r]
 refine Awj (ds := CT.cells x) (a6.ext x2) rfl Bbe (Aum (by rw [List.length_map]; exact hl)) (by rw [Bg]; omega) (by rw [← hR]; rfl) rfl fun v' h3 b3 x3 => ?_
 have hBn : B.nat < (h.new R).next.nat := by rw [Bg]; omega
 have a1'' : h3.at B = .row tb 7 0 98 true := by rw [x3.2 B hBn (.inr fun t m z w e => by rw [a1'] at e; cases e)]; exact a1'
 have n3 := x3.1
 have n2 := x2.1
 rw [Bi, Ae, Ay]
 refine Pf a1'' (Nat.zero_le _) (by decide) b3.one ?_
 refine hk _ ⟨_, v', y3, W, Bn _ _ _, by rw [Da]; omega, a3, a4.Bix a5.len, ?_, ?_, ?_, trivial⟩ (by rw [Da]; omega) fun c hc => ?_
 · refine a5.mono (by rw [Da]; omega) fun q hq hm => ?_
   rw [Br (fun e => by subst e; rw [a1] at hm; cases hm), x3.2 q (by omega) (.inr fun t m z w e => by rw [x2.2 q hq, hm] at e; cases e), x2.2 q hq]
 · rw [List.map_append]
   exact b3.frame (Nat.le_refl _) fun q hq h1 t m z w e => Br fun e' => by subst e'; rw [a1''] at e; cases e
 · refine (a7.ext x2).frame (by rw [Da]; omega) fun q hq h1 t m z w e => ?_
   rw [Br (fun e' => by subst e'; rw [a1'] at e; cases e), x3.2 q hq (.inr fun t m z w e' => by rw [e] at e'; cases e')]
 · rw [Br (fun e => by subst e; omega), x3.2 c (by omega) (.inl (by omega)), x2.2 c (by omega)]
theorem Atp {Y : AV → Prop} {lo : Nat} {B : P} {vL : AV} {O : List CT} {D : List DT} {h : H} (m : Mk Y lo B vL O D h) {K : AV → Prop} (hK : K vL) : ld1 (.ptr B (0 + 4)) h K := by
 obtain ⟨tb, y2, y3, W, a1, a2, a3, a4, a5, a6, a7, a8⟩ := m
 exact Ct a1 (by decide) (by rw [(a4.g4 a5.len).1]; exact hK)
def tk7 (x : Ef) (s : List UInt8) (a cnt : Nat) : List AV := [.int .i64 (.ofNat 6), S s, S x.file, .int .i64 x.f, .int .i64 x.t, .int .i64 (.ofNat a), .int .i64 (.ofNat cnt)]
theorem Is7.at {h : H} {q : P} {t : Tm} {l : List AV} {z : Nat} {e : TypeId} {w : Bool} (ha : h.at q = .row t 7 z e w) (ht : Is7 t l) (hl : l.length = 7) : AtP h q 0 l :=
 ⟨t, 7, z, e, w, ha, by omega, fun j hj => by rw [Nat.zero_add, ht j (by omega), List.getD_eq_getElem?_getD, List.getElem?_eq_getElem hj]; rfl⟩
structure LI (hE : H) (B p1 p2 : P) (vL : AV) (O : List CT) (D : List DT) (xa : Ef) (a : Nat) (g : GS) (h : H) : Prop where
 mkr : Mk (fun y => ∀ o n z b, y ≠ .slice p1 o n z b) hE.next.nat B vL O (D ++ g.ds) h
 ext : Exh hE h
 tok : ∃ tt, h.at p1 = .row tt 7 0 40 true ∧ Is7 tt (tk7 xa [] a g.cnt)
 l1 : hE.next.nat ≤ p1.nat
 n1 : p1.nat < h.next.nat
 bld : Wp hE.next.nat h p2 g.acc
 l2 : hE.next.nat ≤ p2.nat
theorem LI.exh {hE : H} {B p1 p2 : P} {vL : AV} {O : List CT} {D : List DT} {xa : Ef} {a : Nat} {g : GS} {h h' : H} (l : LI hE B p1 p2 vL O D xa a g h) (x : Exh h h') : LI hE B p1 p2 vL O D xa a g h' := by
 obtain ⟨tt, t1, t2⟩ := l.tok
 exact ⟨l.mkr.ext x, l.ext.trans x, ⟨tt, by rw [x.2 _ l.n1]; exact t1, t2⟩, l.l1, Nat.lt_of_lt_of_le l.n1 x.1, l.bld.ext x, l.l2⟩
section
variable {hE : H} {L : List Ef} {vL : AV} {B p1 p2 : P} {O : List CT} {D : List DT} {a : Nat} {xa : Ef} {G : GS} {k : KV}
 (hO : O.length ≤ 200000) (hD : D.length ≤ 200000) (haL : a ≤ 100000)
 (hfin : ∀ h', Exh hE h' → Mk (fun _ => True) hE.next.nat B vL (if G.cnt = 0 then O else O ++ [⟨6, G.first ++ Sk G.acc, xa.file, xa.f, xa.t, a, G.cnt⟩]) (if G.cnt = 0 then D ++ G.ds ++ [xa.dt] else D ++ G.ds) h' → k (.int .i64 (Int.ofNat (if G.cnt = 0 then a + 1 else a + G.used))) h')
include hO hD haL hfin
theorem Bf1 {n : Nat} {h : H} (_hcnt : G.cnt ≤ 100000) (_hacc : G.acc.length ≤ 1000 * G.cnt) (hacc2 : G.acc.length ≤ 400000) (hfl : G.first.length ≤ 2) (hds : G.ds.length ≤ 100000) (li : LI hE B p1 p2 vL O D xa a G h) :
 (r34 W1 k (n + 1)).a4 (.ptr B 0) (Int.ofNat a) (.ptr p1 0) (.ptr p2 0) G.first.length (enc G.first) (Int.ofNat (a + G.used)) h := by
 refine Bdh ?_
 unfold Am7
 obtain ⟨tt, t1, t2⟩ := li.tok
 have at1 : AtP h p1 0 (tk7 xa [] a G.cnt) := Is7.at t1 t2 rfl
 rw [Ay]
 refine at1.ld1 (j := 6) (by show 6 < 7; decide) ?_
 show asI .i64 (.int .i64 (.ofNat G.cnt)) _
 rw [Au, Sr]
 refine Bb (fun e => ?_) (fun e => ?_)
 · have e : G.cnt = 0 := of_decide_eq_true e
   rw [if_pos e, if_pos e, if_pos e] at hfin
   rw [Ay]
   refine at1.A3y (j := 2) (c := 3) (by show 2 + 3 ≤ 7; decide) ?_
   show W1 (.func 36) [.ptr B 0, .agg [S xa.dt.file, .int .i64 xa.dt.f, .int .i64 xa.dt.t]] h _
   have hm := li.mkr
   obtain ⟨_, _, _, _, _, _, hB, _⟩ := hm
   refine c36 li.mkr (by rw [List.length_append]; omega) fun h' m' f' => ?_
   rw [Dk, Cm (by omega), Ar]
   refine hfin h' ⟨Nat.le_trans li.ext.1 f'.1, fun c hc => ?_⟩ m'.any
   rw [f'.2 c (Nat.lt_of_lt_of_le hc li.ext.1) (fun e => by subst e; omega) (.inl hc), li.ext.2 c hc]
 · have e : ¬ G.cnt = 0 := of_decide_eq_false e
   rw [if_neg e, if_neg e, if_neg e] at hfin
   refine Blc li.bld (by omega) fun h1 x1 => ?_
   rw [Ce]
   refine Dn (c62 G.acc (by omega)) ?_
   rw [Ce]
   have hq := Asv G.acc
   refine Kz (s := G.first) (t := Sk G.acc) (by omega) ?_
   have hm := li.mkr
   obtain ⟨_, _, _, _, _, _, hB, _⟩ := hm
   have t1' : h1.at p1 = .row tt 7 0 40 true := by rw [x1.2 p1 li.n1 (.inr fun t m z w e => by rw [t1] at e; cases e)]; exact t1
   rw [Ay]
   refine Pf t1' (Nat.zero_le _) (by decide) rfl ?_
   generalize hh2 : h1.put p1 (.row (Ah [S (G.first ++ Sk G.acc)] (0 + 1) tt) 7 0 40 true) = h2
   have n2 : h2.next = h1.next := by subst hh2; rfl
   have f2 : ∀ c, c ≠ p1 → h2.at c = h1.at c := fun c hc => by subst hh2; exact Br hc
   have a2 : h2.at p1 = .row (Ah [S (G.first ++ Sk G.acc)] (0 + 1) tt) 7 0 40 true := by subst hh2; exact Bn _ _ _
   have i2 : Is7 (Ah [S (G.first ++ Sk G.acc)] (0 + 1) tt) (tk7 xa (G.first ++ Sk G.acc) a G.cnt) := fun i hi => by
    rw [Ao]
    by_cases e : i = 1
    · subst e; rw [if_pos (by simp)]; rfl
    · rw [if_neg (by simp; omega), t2 i hi]
      match i, hi, e with
      | 0, _, _ | 2, _, _ | 3, _, _ | 4, _, _ | 5, _, _ | 6, _, _ => rfl
      | 1, _, e => exact absurd rfl e
   have at2 : AtP h2 p1 0 (tk7 xa (G.first ++ Sk G.acc) a G.cnt) := Is7.at a2 i2 rfl
   have m2 : Mk (fun y => ∀ o n z b, y ≠ .slice p1 o n z b) hE.next.nat B vL O (D ++ G.ds) h2 := by
    refine li.mkr.mono (by rw [n2]; exact x1.1) fun c hc hl hh => ?_
    have hcp : c ≠ p1 := fun e => by
     subst e
     rcases hh with ⟨t, m, z, w, hh⟩ | ⟨_, o, n, z, b, hh⟩ | ⟨t, m, z, w, hh⟩ | hh
     · rw [t1] at hh; cases hh
     · exact hh _ _ _ _ rfl
     · rw [t1] at hh; cases hh
     · rw [t1] at hh; cases hh
    rw [f2 c hcp, x1.2 c hc (.inr fun t m z w e => ?_)]
    rcases hh with ⟨_, _, _, _, hh⟩ | ⟨⟨_, _, _, _, hh⟩, _⟩ | ⟨_, _, _, _, hh⟩ | hh <;> (rw [e] at hh; cases hh)
   have ext2 : Exh hE h2 := by
    refine ⟨by rw [n2]; exact Nat.le_trans li.ext.1 x1.1, fun c hc => ?_⟩
    have hl1 := li.l1
    rw [f2 c (fun e => by subst e; omega), x1.2 c (Nat.lt_of_lt_of_le hc li.ext.1) (.inl hc), li.ext.2 c hc]
   obtain ⟨y2, hy, hout⟩ := m2.out (x := ⟨6, G.first ++ Sk G.acc, xa.file, xa.f, xa.t, a, G.cnt⟩) (by omega) (k := fun h112 => k (.int .i64 (Int.ofNat (a + G.used))) h112) (fun h' m' n' f' => hfin h' ⟨Nat.le_trans ext2.1 n', fun c hc => by rw [f' c hc, ext2.2 c hc]⟩ m')
   rw [Bi, Ae, Ay]
   refine hy _ ?_
   refine at2.ldn (by rfl) ?_
   exact hout
end
end Go.Den
