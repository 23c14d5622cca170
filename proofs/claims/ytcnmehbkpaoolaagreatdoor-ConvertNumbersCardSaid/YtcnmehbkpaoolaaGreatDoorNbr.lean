/-
 Proof.
-/
import Derived.Test.YtcnmehbkpaoolaaGreatDoorNbs
noncomputable section
namespace Go.Den
open Go.RowKit
set_option maxRecDepth 100000
def A0u : Tm := Option.rec .e (fun t => t) (Qi (Nr 1) 12 [(0, (.str 1 49)), (1, (.str 4 1177647152)), (2, (.str 2 14384)), (3, (.str 3 3485233)), (4, (.str 2 25905)), (5, (.str 3 2580775)), (6, (.str 2 10023)), (7, (.str 5 216630655024)), (8, (.str 3 7697713)), (9, (.str 4 661740583)), (10, (.str 2 11825)), (11, (.str 5 169133684853))] (Ah (Iw [.str 0 0] 12) 0 .e))
theorem Bni (h : H) : Al env 44 (fun e ei => Aj 12 [(0, (.str 1 49)), (1, (.str 4 1177647152)), (2, (.str 2 14384)), (3, (.str 3 3485233)), (4, (.str 2 25905)), (5, (.str 3 2580775)), (6, (.str 2 10023)), (7, (.str 5 216630655024)), (8, (.str 3 7697713)), (9, (.str 4 661740583)), (10, (.str 2 11825)), (11, (.str 5 169133684853))] h e ei) = some (.slice h.next 0 12 1 true, h.new (.row A0u 12 0 9 true)) := by kernel_rfl
theorem Bm9 : Bq A0u 12 0 = itN.map fun s => S s := by kernel_rfl
def A0v : Tm := Option.rec .e (fun t => t) (Qi (Nr 1) 12 [(0, (.int .i64 (Int.ofNat 3))), (1, (.int .i64 (Int.ofNat 3))), (2, (.int .i64 (Int.ofNat 0))), (3, (.int .i64 (Int.ofNat 4))), (4, (.int .i64 (Int.ofNat 0))), (5, (.int .i64 (Int.ofNat 5))), (6, (.int .i64 (Int.ofNat 0))), (7, (.int .i64 (Int.ofNat 4))), (8, (.int .i64 (Int.ofNat 0))), (9, (.int .i64 (Int.ofNat 0))), (10, (.int .i64 (Int.ofNat 4))), (11, (.int .i64 (Int.negSucc 0)))] (Ah (Iw [.int .i64 (Int.ofNat 0)] 12) 0 .e))
theorem Bnj (h : H) : Al env 51 (fun e ei => Aj 12 [(0, (.int .i64 (Int.ofNat 3))), (1, (.int .i64 (Int.ofNat 3))), (2, (.int .i64 (Int.ofNat 0))), (3, (.int .i64 (Int.ofNat 4))), (4, (.int .i64 (Int.ofNat 0))), (5, (.int .i64 (Int.ofNat 5))), (6, (.int .i64 (Int.ofNat 0))), (7, (.int .i64 (Int.ofNat 4))), (8, (.int .i64 (Int.ofNat 0))), (9, (.int .i64 (Int.ofNat 0))), (10, (.int .i64 (Int.ofNat 4))), (11, (.int .i64 (Int.negSucc 0)))] h e ei) = some (.slice h.next 0 12 1 true, h.new (.row A0v 12 0 3 true)) := by kernel_rfl
theorem Bna : Bq A0v 12 0 = kdN.map fun z => .int .i64 z := by kernel_rfl
theorem Bcd {T : Tm} {n : Nat} {e : TypeId} {cs : List AV} (hc : Bq T n 0 = cs) (hn : cs.length = n) (h : H) : Rd 1 (h.new (.row T n 0 e true)) (.slice h.next 0 n 1 true) (cs.map fun c => [c]) := Bce hc hn h
theorem Beg {h : H} {v : AV} {cs : List AV} (hr : Rd 1 h v (cs.map fun c => [c])) {i : Nat} (hi : i < cs.length) {K : AV → Prop} (hk : K cs[i]) : Cf 1 i v fun a => Go.Den.ld1 a h K := by
 refine hr.elem (i := i) (by rw [List.length_map]; exact hi) fun q o _ _ ha => ?_
 rw [List.getElem_map] at ha
 exact ha.ld1 (j := 0) Nat.one_pos hk
theorem A17 (x y : AV) (h : H) : An env .append [51, 51] [x, y] h = De (some false) x y h 3 (Mf 3) := by kernel_rfl
theorem sz3 : (Mf 3).size = 1 := by kernel_rfl
theorem A1l {n : Nat} (hn : n ≤ 1099511627776) : Ch (Mf 3) n = true := Te (by kernel_rfl) (by kernel_rfl) hn
def Z3 : Tm := Ah [.int .i64 (Int.ofNat 0)] 0 .e
theorem bI1 (a : Int) (h : H) : Al env 51 (fun e ei => Aj 1 [(0, (.int .i64 a))] h e ei) = some (.slice h.next 0 1 1 true, h.new (.row (Ah [.int .i64 a] 0 Z3) 1 0 3 true)) := by kernel_rfl
def Z32 : Tm := Option.rec .e (fun t => t) (Qi (Nr 1) 2 [(0, (.int .i64 (Int.ofNat 1))), (1, (.int .i64 (Int.ofNat 5)))] (Ah (Iw [.int .i64 (Int.ofNat 0)] 2) 0 .e))
theorem bI2 (h : H) : Al env 51 (fun e ei => Aj 2 [(0, (.int .i64 (Int.ofNat 1))), (1, (.int .i64 (Int.ofNat 5)))] h e ei) = some (.slice h.next 0 2 1 true, h.new (.row Z32 2 0 3 true)) := by kernel_rfl
theorem cI2 : Bq Z32 2 0 = [.int .i64 (Int.ofNat 1), .int .i64 (Int.ofNat 5)] := by kernel_rfl
theorem Bha (h : H) : Br (h.new (.row Z32 2 0 3 true)) 1 (.slice h.next 0 2 1 true) = some (2, [.int .i64 (Int.ofNat 1), .int .i64 (Int.ofNat 5)]) := by
 show (Bool.rec (motive := fun _ => Option (Nat × List AV)) none (Option.rec (motive := fun _ => Option (Nat × List AV)) none (fun cs => some (2, cs)) ((h.new (.row Z32 2 0 3 true)).read h.next 0 (Nat.mul 2 1))) (Nat.beq 1 1)) = _
 rw [Nat.beq_refl, Uc (Aw h _) (show Nat.mul 2 1 ≤ 2 by decide)]
 show some (2, Bq Z32 (Nat.mul 2 1) 0) = _
 rw [show Nat.mul 2 1 = 2 from rfl, cI2]
abbrev nC (n : Nat) : List AV := [.int .i64 (Int.ofNat n)]
theorem kdW : ∀ (j : Nat) (hj : j < 12), ((kdN[j]'hj) = 0 ∧ (wtN[j]'hj) = [] ∧ (bdN[j]'hj) = 1) ∨ ((kdN[j]'hj) = -1 ∧ (wtN[j]'hj) = [1, 5] ∧ (bdN[j]'hj) = 0) ∨ (∃ n : Nat, (kdN[j]'hj) = Int.ofNat n ∧ n ≠ 0 ∧ (wtN[j]'hj) = [n] ∧ (bdN[j]'hj) = 0) := by
 intro j hj
 match j, hj with
 | 0, _ | 1, _ => exact .inr (.inr ⟨3, rfl, by decide, rfl, rfl⟩)
 | 2, _ | 4, _ | 6, _ | 8, _ | 9, _ => exact .inl ⟨rfl, rfl, rfl⟩
 | 3, _ | 7, _ | 10, _ => exact .inr (.inr ⟨4, rfl, by decide, rfl, rfl⟩)
 | 5, _ => exact .inr (.inr ⟨5, rfl, by decide, rfl, rfl⟩)
 | 11, _ => exact .inr (.inl ⟨rfl, rfl, rfl⟩)
theorem Bmu : Pure PP G h0 22 [S []] .Ad := pure_run (by kernel_rfl)
theorem A8v {h : H} {s : List UInt8} {k : KV} (hl : s.length ≤ 900000) (hs : ∀ x ∈ s, x ≠ 10 ∧ x ≠ 63) {ts : List Lh} (hx : Lxs s ts)
    (hk : ∀ h' v (T : List Tok), (T.map Vy).map tk = ts → T.length ≤ s.length + 1 → Exh h h' → RdT h' v (T.map Vy) → k v h') : W1 (.func 22) [S s] h k := by
  by_cases hs0 : s = []
  · subst hs0
    have h1 := (hx 1 false (by decide)).1
    have h2 := (Lxs.nil 1 false (by decide)).1
    rw [h2] at h1
    subst h1
    exact Dq Bmu (hk h .Ad [] rfl (Nat.zero_le _) .refl (.inl ⟨rfl, rfl⟩))
  · have hc : Go.Lx.bts (Go.Lx.Ez s) = s ++ [10] := by
      rw [Go.Lx.Ajo hs0 (fun x hx => (hs x hx).1) (An8 fun x hx => (hs x hx).2)]
      show Go.Lx.bts (Go.Lx.rnF 0 s ++ [(10, s.length, s.length)]) = _
      unfold Go.Lx.bts
      rw [List.map_append]
      have := Go.Lx.Ao2 s 0
      unfold Go.Lx.bts at this
      rw [this]; rfl
    have hlen : (Go.Lx.bts (Go.Lx.Ez s)).length = s.length + 1 := by rw [hc]; simp
    obtain ⟨g1, g2⟩ := hx (s.length + 1) false (Nat.lt_succ_self _)
    refine c22 (Q := fun T : List Tok => T.map bare = Go.Lx.Sw (s.length + 1) (s ++ [10]) false) (by omega) (by omega) ?_ ?_ fun h' v T hQ hT x r => ?_
    · rw [hlen, hc, Nat.add_sub_cancel, Vq (by simp), List.getElem_append_right (Nat.le_refl _)]; simp
    · rw [hc]
      exact Lx.all (by rw [List.length_append, List.length_singleton]; omega) (s.length + 1) 0 false [] g2 fun T' hT' => hT'
    · refine hk h' v T ?_ hT x r
      rw [← g1, ← hQ, List.map_map, List.map_map]; rfl
theorem Bgj {h : H} {v11 : AV} {D : List DT} (he : Jj h) (hd : D = [] ∨ Rd 4 h v11 (D.map DT.cells)) (hlen : ∀ K : Nat → Prop, Dy v11 K = K D.length) (hl : D.length ≤ 1000) : ∀ (n i : Nat), D.length - i < n → i ≤ D.length → (r7 W1 kTn n).a4 v11 (Int.ofNat i) h
 | 0, _, hn, _ => absurd hn (Nat.not_lt_zero _)
 | n + 1, i, hn, hi => by
  refine Bkh ?_
  unfold Ayf
  rw [hlen, ilt]
  refine Bb (fun e => ?_) (fun e => ?_)
  · have e : i < D.length := of_decide_eq_true e
    have hd' : Rd 4 h v11 (D.map DT.cells) := by
     rcases hd with rfl | hd
     · exact absurd e (Nat.not_lt_zero _)
     · exact hd
    have hi' : i < (D.map DT.cells).length := by rw [List.length_map]; exact e
    have hc : (D.map DT.cells)[i] = D[i].cells := List.getElem_map ..
    rw [As]
    refine hd'.fld (j := 0) hi' (by rw [hc]; exact Nat.zero_lt_succ _) ?_
    simp only [hc]
    show asI .i64 (.int .i64 (.ofNat 19)) _
    rw [Au, Mq, Bl]
    refine Bi (by decide) ?_
    rw [Dm, Cm (by omega), Ar]
    exact Bgj he hd hlen hl n (i + 1) (by omega) e
  · refine Ao5 he ?_
    rw [Cg]
theorem Bgk {h : H} {v6 v10 v11 : AV} {O : List CT} {D : List DT} {W : List Nat} (he : Jj h) (ho : Rd 7 h v10 (O.map CT.cells)) (hw : ∀ i (hi : i < W.length), ∃ p, (O.map ct2)[i]? = some p ∧ p.1 = W[i]) (hv : W = [] ∨ Rd 1 h v6 (W.map nC)) (hvl : ∀ K : Nat → Prop, Dy v6 K = K W.length) (hWl : W.length ≤ 1000) (hd : D = [] ∨ Rd 4 h v11 (D.map DT.cells)) (hlen : ∀ K : Nat → Prop, Dy v11 K = K D.length) (hl : D.length ≤ 1000) : ∀ (n i : Nat), W.length - i + D.length + 2 ≤ n → i ≤ W.length → (r7 W1 kTn n).a3 v6 v10 v11 (Int.ofNat i) h
 | 0, _, hn, _ => absurd hn (by omega)
 | n + 1, i, hn, hi => by
  refine Bki ?_
  unfold Ayg
  rw [hvl, ilt]
  refine Bb (fun e => ?_) (fun e => ?_)
  · have e : i < W.length := of_decide_eq_true e
    have hv' : Rd 1 h v6 (W.map nC) := by
     rcases hv with rfl | hv
     · exact absurd e (Nat.not_lt_zero _)
     · exact hv
    obtain ⟨p, hp, hpw⟩ := hw i e
    rw [As]
    refine ho.ctk (i := i) hp ?_
    rw [Au, As]
    have hv2 : Rd 1 h v6 ((W.map fun n => AV.int .i64 (Int.ofNat n)).map fun c => [c]) := by rw [List.map_map]; exact hv'
    refine Beg hv2 (i := i) (by rw [List.length_map]; exact e) ?_
    rw [List.getElem_map, Au, hpw, Mq, Bl]
    refine Bi (by simp) ?_
    rw [Dm, Cm (by omega), Ar]
    exact Bgk he ho hw hv hvl hWl hd hlen hl n (i + 1) (by omega) e
  · exact Bgj he hd hlen hl n 0 (by omega) (Nat.zero_le _)
section
variable {hE : H} {v0 v3 v4 : AV} {l : List Int} (he : Jj hE) (hv : Itz hE v0 l) (hl : l.length ≤ 30) (r3 : Rd 1 hE v3 (es itN)) (r4 : Rd 1 hE v4 ((kdN.map fun z => AV.int .i64 z).map fun c => [c]))
include he hl
theorem A8s {h : H} {v6 : AV} {n : Nat} (x : Exh hE h) (hb : Cw 3 1 hE.next.nat h v6 ((waN l).map nC)) (k0 : 100 ≤ n) : W1 (.func 22) [S (txN l)] h fun v44 h45 => W1 (.func 16) [v44] h45 fun v46 h47 =>
     ext 0 v46 fun v48 => ext 1 v46 fun v49 => Dy v48 fun m50 => Dy v6 fun m51 => fI (wrap .i64 (Bo (Int.ofNat m51) (Int.ofNat 1))) fun n52 =>
     Ap (fun k53 => gate false (Ct (Az (Int.ofNat m50) n52)) (Dy v49 fun m56 => k53 (Ct (Az (Int.ofNat m56) (Int.ofNat (baN l)))) h47) (k53 true h47)) fun b55 h54 => cnd b55 (kTn (.bool false) h54) ((r7 W1 kTn n).a3 v6 v48 v49 (Int.ofNat 0) h54) := by
  obtain ⟨t1, t2, t3, t4⟩ := Ake l
  obtain ⟨o1, o2⟩ := A0z l
  refine A8v (by omega) o1 (Ats l) fun h1 v T hT hTl x1 rT => ?_
  have hTn : T.length = (toN l).length := by have := congrArg List.length hT; rw [List.length_map, List.length_map] at this; exact this
  have htk : ∀ z ∈ T, tk (Vy z) ∈ toN l := fun z hz => by rw [← hT]; exact List.mem_map_of_mem (List.mem_map_of_mem hz)
  have hkind : ∀ z ∈ T, z.kind ≠ 4 ∧ z.kind ≠ 7 := fun z hz => (o2 _ (htk z hz)).2
  have x01 := x.trans x1
  refine c16 rT (by rw [List.length_map]; omega) (fun y hy => ?_) (he.keep x01.1 x01.2) fun h2 vo vd x2 bo bd => ?_
  · obtain ⟨z, hz, rfl⟩ := List.mem_map.1 hy
    have : z.text.length ≤ 5 := (o2 _ (htk z hz)).1
    show z.text.length ≤ 1000; omega
  obtain ⟨e1, e2⟩ := Aoy T 0 hkind
  generalize hO : (Dv (T.map Vy) 0 0).1 = O at *
  generalize hD : (Dv (T.map Vy) 0 0).2 = D at *
  have hK : (T.map bare).filterMap Acu = (toN l).filterMap Gj := by
    rw [← hT, List.map_map, List.filterMap_map, List.filterMap_map]; rfl
  have hC : ((T.map bare).countP fun b => (Acu b).isNone) = baN l := by
    rw [← (Ur l).2, ← hT, List.map_map, List.countP_map, List.countP_map]; rfl
  rw [hK] at e1
  rw [hC] at e2
  have hkl : ((toN l).filterMap Gj).length = (waN l).length := by rw [← (Ur l).1, List.length_map]
  have hOl : O.length = (waN l).length + 1 := by
    have := congrArg List.length e1
    rw [List.length_map, List.length_append, hkl] at this; exact this
  have x02 := x1.trans x2
  have hb2 := hb.ext x02
  have he2 : Jj h2 := (he.keep x01.1 x01.2).keep x2.1 x2.2
  rw [En, Ev, bo.len, List.length_map, hOl, hb2.len, List.length_map, Dm, Cm (by omega), Ar, Mq, Bl]
  refine We (fun _ => ?_) (fun e => absurd e (by simp))
  rw [bd.len, List.length_map, e2, Mq, Bl]
  refine Bi (by simp) ?_
  have hne : O.map CT.cells ≠ [] := fun e => by have := congrArg List.length e; rw [List.length_map, hOl] at this; cases this
  refine Bgk (W := waN l) (D := D) he2 (bo.rd hne) (fun i hi => ?_) ?_ (fun K => by rw [hb2.len, List.length_map]) (by omega) ?_ (fun K => by rw [bd.len, List.length_map]) (by omega) n 0 (by omega) (Nat.zero_le _)
  · have hi' : i < ((toN l).filterMap Gj).length := by rw [hkl]; exact hi
    refine ⟨((toN l).filterMap Gj)[i], ?_, ?_⟩
    · rw [e1, List.getElem?_append_left hi', List.getElem?_eq_getElem hi']
    · have := (Ur l).1
      have h3 : (((toN l).filterMap Gj).map Prod.fst)[i]? = (waN l)[i]? := by rw [this]
      rw [List.getElem?_map, List.getElem?_eq_getElem hi', List.getElem?_eq_getElem hi] at h3
      exact Option.some.inj h3
  · by_cases e : waN l = []
    · exact .inl e
    · exact .inr (hb2.rd (by simp [e]))
  · by_cases e : D = []
    · exact .inl e
    · exact .inr (bd.rd (by simp [e]))
include hv r3 r4
theorem Bmj : ∀ (n i : Nat) {h : H} {v6 : AV}, 2 * (l.length - i) + 150 ≤ n → i ≤ l.length → Exh hE h → Cw 3 1 hE.next.nat h v6 ((waN (l.take i)).map nC) →
    (r7 W1 kTn n).a1 v0 v3 v4 (txN (l.take i)).length (enc (txN (l.take i))) v6 (Int.ofNat (baN (l.take i))) (Int.ofNat i) h := by
  intro n
  induction n using Nat.strongRecOn with
  | _ n ih =>
    intro i h v6 hn hi x hb
    obtain ⟨n, rfl⟩ : ∃ m, n = m + 2 := ⟨n - 2, by omega⟩
    refine Bkk ?_
    unfold Ayi
    rw [(hv.ext x).len, ilt]
    refine Bb (fun e => ?_) (fun e => ?_)
    · have e : i < l.length := of_decide_eq_true e
      obtain ⟨s1, s2, s3⟩ := Apg e
      obtain ⟨t1, _, t3, t4⟩ := Ake (l.take i)
      have htl : (l.take i).length ≤ 30 := by rw [List.length_take]; omega
      rw [As]
      refine (hv.ext x).get e ?_
      rw [Au, r3.len, Wp]
      refine Dq (Bcb l[i]) ?_
      rw [Au, As]
      have hr := Kc l[i]
      have ok := Aua (rkN l[i]) hr
      refine (r3.ext x).str (i := rkN l[i]) hr ?_
      rw [Ck]
      refine Aa2 (s := txN (l.take i)) (t := itN[rkN l[i]]'hr) (by omega) ?_
      refine Aa2 (s := txN (l.take i) ++ itN[rkN l[i]]'hr) (t := [32]) (by rw [List.length_append]; simp only [List.length_cons, List.length_nil]; omega) ?_
      have hs1 : (txN (l.take i) ++ itN[rkN l[i]]'hr) ++ [32] = txN (l.take (i + 1)) := by rw [s1, List.append_assoc]
      rw [hs1, As]
      have rK : ∀ {K : AV → Prop}, K (.int .i64 (kdN[rkN l[i]]'hr)) → Cf 1 (rkN l[i]) v4 fun a => Go.Den.ld1 a h K := fun {K} hK => Beg (r4.ext x) (i := rkN l[i]) (by rw [List.length_map]; exact hr) (by rw [List.getElem_map]; exact hK)
      refine rK ?_
      rw [Au]
      have go : ∀ (v : AV) (h' : H) (b : Nat), Exh hE h' → b = baN (l.take (i + 1)) → Cw 3 1 hE.next.nat h' v ((waN (l.take (i + 1))).map nC) → (r7 W1 kTn (n + 1)).a2 v0 v3 v4 (txN (l.take (i + 1))).length (enc (txN (l.take (i + 1)))) v (Int.ofNat b) (Int.ofNat i) h' := fun v h' b x' hb' hB => by
        subst hb'
        refine Bkj ?_
        unfold Ayh
        rw [Dm, Cm (by omega), Ar]
        exact ih n (by omega) (i + 1) (by omega) e x' hB
      have hWl : ((waN (l.take i)).map nC).length ≤ 60 := by rw [List.length_map]; omega
      rcases kdW (rkN l[i]) hr with ⟨k1, k2, k3⟩ | ⟨k1, k2, k3⟩ | ⟨m, k1, km, k2, k3⟩
      · rw [k1]
        refine Cd rfl ?_
        rw [Dm, Cm (by omega), Ar]
        refine go v6 h _ x (by rw [s3, k3]) ?_
        rw [s2, k2, List.append_nil]; exact hb
      · rw [k1]
        refine Bi rfl (Cd rfl ?_)
        rw [bI2, Ae, A17]
        refine Ag0 (lo := hE.next.nat) (L := (waN (l.take i)).map nC) (M := [[.int .i64 (Int.ofNat 1)], [.int .i64 (Int.ofNat 5)]]) (hb.ext .new) (Bha h) (fun c hc => by simp only [List.mem_cons, List.not_mem_nil, or_false] at hc; rcases hc with rfl | rfl <;> rfl) sz3 (A1l (by simp only [List.length_cons, List.length_nil]; omega)) (by have := x.1; rw [Bc]; omega) fun v' h2 b2 x2 => ?_
        have xn : Exh hE (h.new (.row Z32 2 0 3 true)) := x.trans .new
        refine go v' h2 _ ⟨Nat.le_trans xn.1 x2.1, fun c hc => by rw [x2.2 c (Nat.lt_of_lt_of_le hc xn.1) (.inl hc), xn.2 c hc]⟩ (by rw [s3, k3, Nat.add_zero]) ?_
        rw [s2, k2, List.map_append]; exact b2
      · rw [k1]
        have hm0 : Az (Int.ofNat m) (Int.ofNat 0) = false := by rw [Mq]; exact decide_eq_false km
        refine Bi hm0 (Bi rfl ?_)
        rw [As]
        refine rK ?_
        rw [Au, k1, bI1, Ae, A17]
        refine Ao8 (ds := [.int .i64 (Int.ofNat m)]) (hb.ext .new) rfl sz3 (A1l (by omega)) (by have := x.1; rw [Bc]; omega) rfl rfl fun v' h2 b2 x2 => ?_
        have xn : Exh hE (h.new (.row (Ah [.int .i64 (Int.ofNat m)] 0 Z3) 1 0 3 true)) := x.trans .new
        refine go v' h2 _ ⟨Nat.le_trans xn.1 x2.1, fun c hc => by rw [x2.2 c (Nat.lt_of_lt_of_le hc xn.1) (.inl hc), xn.2 c hc]⟩ (by rw [s3, k3, Nat.add_zero]) ?_
        rw [s2, k2, List.map_append]; exact b2
    · have e : i = l.length := by have := of_decide_eq_false e; omega
      subst e
      rw [List.take_length] at hb ⊢
      exact A8s he hl (n := n + 1) x hb (by omega)
end
theorem c7 {h : H} {v0 : AV} {l : List Int} (he : Jj h) (hv : Itz h v0 l) : W1 (.func 7) [v0] h kTn := by
 refine w7 (n := 400) Bm (g7 ?_)
 unfold Ayj
 rw [hv.len, ilt]
 refine Bb (fun _ => ?_) (fun e => ?_)
 · refine Ao5 he ?_
   rw [Cg]
 have hl : l.length ≤ 30 := by have := of_decide_eq_false e; omega
 rw [Bni, Ae]
 have r3 := Bcf (e := 9) Bm9 rfl h
 have x1 : Exh h (h.new (.row A0u 12 0 9 true)) := .new
 generalize h.new (.row A0u 12 0 9 true) = h1 at r3 x1 ⊢
 rw [Bnj, Ae]
 have r4 := Bcd (e := 3) Bna rfl h1
 have x2 : Exh h1 (h1.new (.row A0v 12 0 3 true)) := .new
 replace r3 := r3.ext x2
 replace x2 := x1.trans x2
 generalize h1.new (.row A0v 12 0 3 true) = h2 at r3 r4 x2 ⊢
 exact Bmj (he.keep x2.1 x2.2) (hv.ext x2) hl r3 r4 399 0 (by omega) (Nat.zero_le _) .refl (.inl ⟨rfl, rfl⟩)
end Go.Den
