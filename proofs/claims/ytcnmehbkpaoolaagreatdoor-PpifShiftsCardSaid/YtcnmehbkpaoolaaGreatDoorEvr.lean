/-
  A part of the proof.
-/
import Derived.Test.YtcnmehbkpaoolaaGreatDoorEvm
import Derived.Test.YtcnmehbkpaoolaaGreatDoorToks
noncomputable section
namespace Go.Den
open Go.RowKit
open Go.Pre (V Ir vz Ew Kg Jo Jm Ahq shB Oi Ae0 Hx Ld Wc Ad7)
set_option maxRecDepth 100000
def Rz (hE : H) (B : P) (vL : AV) (i : Nat) (b : Bool) (h : H) : Prop := Exh hE h ∧ hE.next.nat ≤ B.nat ∧ B.nat < h.next.nat ∧ Cel h B 121 [vL, .int .i64 (Int.ofNat i), .bool b]
def FrN (n : Nat) (h h' : H) : Prop := h.next.nat ≤ h'.next.nat ∧ ∀ c, c.nat < n → h'.at c = h.at c
theorem FrN.trans {n : Nat} {h h1 h2 : H} (a : FrN n h h1) (b : FrN n h1 h2) : FrN n h h2 := ⟨Nat.le_trans a.1 b.1, fun c hc => by rw [b.2 c hc, a.2 c hc]⟩
theorem FrN.exh {n : Nat} {h h' : H} (x : Exh h h') (hn : n ≤ h.next.nat) : FrN n h h' := ⟨x.1, fun c hc => x.2 c (by omega)⟩
theorem FrN.fro {n : Nat} {p : P} {h h' : H} (f : FrO p h h') (hp : n ≤ p.nat) (hn : n ≤ h.next.nat) : FrN n h h' := ⟨f.1, fun c hc => f.2 c (by omega) fun e => by subst e; omega⟩
theorem FrO.frn {B : P} {h0 h h' : H} (f : FrO B h0 h) (g : FrN h0.next.nat h h') : FrO B h0 h' := ⟨Nat.le_trans f.1 g.1, fun c hc hn => by rw [g.2 c hc, f.2 c hc hn]⟩
section
variable {hE h h' : H} {B : P} {vL : AV} {i : Nat} {b : Bool}
theorem Rz.frn {n : Nat} (s : Rz hE B vL i b h) (f : FrN n h h') (hn : B.nat < n) : Rz hE B vL i b h' :=
  ⟨⟨Nat.le_trans s.1.1 f.1, fun c hc => by rw [f.2 c (by have := s.2.1; omega), s.1.2 c hc]⟩, s.2.1, Nat.lt_of_lt_of_le s.2.2.1 f.1, s.2.2.2.frame (f.2 B hn)⟩
theorem Rz.ext (s : Rz hE B vL i b h) (f : Exh h h') : Rz hE B vL i b h' := s.frn (FrN.exh f (Nat.le_refl _)) s.2.2.1
theorem Rz.loc {p : P} (s : Rz hE B vL i b h) (f : FrO p h h') (hp : B.nat < p.nat) (hn : p.nat < h.next.nat) : Rz hE B vL i b h' := s.frn (FrN.fro f (Nat.le_refl _) (by omega)) hp
theorem Rz.l0 {K : AV → Prop} (s : Rz hE B vL i b h) (hk : K vL) : Go.Den.ld1 (.ptr B (0 + 0)) h K := s.2.2.2.atp.ld1 (j := 0) (by simp) hk
theorem Rz.l1 {K : AV → Prop} (s : Rz hE B vL i b h) (hk : K (.int .i64 (Int.ofNat i))) : Go.Den.ld1 (.ptr B (0 + 1)) h K := s.2.2.2.atp.ld1 (j := 1) (by simp) hk
theorem Rz.l2 {K : AV → Prop} (s : Rz hE B vL i b h) (hk : K (.bool b)) : Go.Den.ld1 (.ptr B (0 + 2)) h K := s.2.2.2.atp.ld1 (j := 2) (by simp) hk
theorem Rz.s1 {j : Nat} {K : H → Prop} (s : Rz hE B vL i b h) (hk : ∀ h', FrO B h h' → Rz hE B vL j b h' → K h') : Go.Den.st1 (.ptr B (0 + 1)) (.int .i64 (Int.ofNat j)) h K :=
  s.2.2.2.st1 (j := 1) (by simp) rfl fun h' f c => hk h' f ⟨s.1.loc f s.2.1, s.2.1, Nat.lt_of_lt_of_le s.2.2.1 f.1, c⟩
theorem Rz.s2 {y : Bool} {K : H → Prop} (s : Rz hE B vL i b h) (hk : ∀ h', FrO B h h' → Rz hE B vL i y h' → K h') : Go.Den.st1 (.ptr B (0 + 2)) (.bool y) h K :=
  s.2.2.2.st1 (j := 2) (by simp) rfl fun h' f c => hk h' f ⟨s.1.loc f s.2.1, s.2.1, Nat.lt_of_lt_of_le s.2.2.1 f.1, c⟩
end
theorem Ig {p : P} {h : H} {w v : V} {k : KV} (c : Cel h p 55 (vC w)) (hk : ∀ h', FrO p h h' → k (vI v) h') : stn 2 (.ptr p 0) (vI v) h fun h8 => ldn 2 (.ptr p 0) h8 fun v9 => k v9 h8 :=
  c.stn (cs' := vC v) rfl rfl (by decide) fun h' f c' => c'.atp.ldn rfl (hk h' f)
theorem Ll {h : H} : Cel (h.new Dd) h.next 55 (vC (0#64, false)) := by rw [Alr]; exact .new
theorem Kk {h : H} {v : V} {K : H → Prop} (hk : ∀ h', Exh h h' → h.next.nat < h'.next.nat → Cel h' h.next 55 (vC v) → K h') : stn 2 (.ptr h.next 0) (vI v) (h.new Dd) K :=
  (Ll (h := h)).stn (cs' := vC v) rfl rfl (by decide) fun h' f c => hk h' (Exh.new.loc f (Nat.le_refl _)) (by have := f.1; rw [Bq] at this; omega) c
theorem A3y {a : AV} {l : List AV} {K : AV → Prop} : Awo 0 (.agg (a :: l)) K = K a := rfl
theorem A36 (b : Bool) (h : H) : Bt env (env.ty 55) [(1, (.bool b))] h = some (.agg [.int .u64 (.ofNat 0), .bool b], h) := by kernel_rfl
theorem Ar7 (h : H) : Bt env (env.ty 55) [] h = some (.agg [.int .u64 (.ofNat 0), .bool false], h) := by kernel_rfl
theorem Au3 {n0 : Nat} {h : H} {p7 p20 : P} {un : Bool} {x y : BitVec 64} {w : V} {k : KV} (c20 : Cel h p20 55 (vC (y, un))) (c7 : Cel h p7 55 (vC w)) (hne : p7 ≠ p20) (u7 : p7.nat < h.next.nat) (l7 : n0 ≤ p7.nat) (l20 : n0 ≤ p20.nat) (hk : ∀ h', FrN n0 h h' → k (vI (x, un)) h') :
    st1 (.ptr p20 (0 + 0)) (uI x) h (fun h31 => ldn 2 (.ptr p20 0) h31 fun v32 => stn 2 (.ptr p7 0) v32 h31 fun h33 => ldn 2 (.ptr p7 0) h33 fun v34 => k v34 h33) := by
  refine c20.st1 (j := 0) (by simp) rfl fun h1 f1 c1 => ?_
  refine c1.atp.ldn rfl ?_
  refine (c7.fr f1 u7 hne).stn (cs' := vC (x, un)) rfl rfl (by decide) fun h2 f2 c2 => ?_
  refine c2.atp.ldn rfl (hk h2 ((FrN.fro f1 l20 (by omega)).trans (FrN.fro f2 l7 (by have := f1.1; omega))))
section
variable {hE h : H} {B : P} {vL : AV} {i : Nat} {s : List UInt8} {a b : V} {d : Bool} {k : KV}
theorem Aw9 {y : Bool} (rs : Rz hE B vL i y h) (_hs : s ≠ [124, 124] ∧ s ≠ [38, 38]) (hk1 : ∀ v h', Hx s a b d = some v → FrO B h h' → Rz hE B vL i y h' → k (vI v) h') (hk2 : ∀ v h', Hx s a b d = none → FrO B h h' → Rz hE B vL i true h' → k (vI v) h') : W1 (.func 142) [.ptr B 0, S s, vI a, vI b, .bool d] h k := by
  refine A7o (n := 4) Ca (Bhg ?_)
  unfold Ac3
  rw [Abr]
  refine Ahu (by simp) (Dk ?_)
  have c2 : Cel (h.new (rowOf 55 (vC a))) h.next 55 (vC a) := .new
  have x1 : Exh h (h.new (rowOf 55 (vC a))) := .new
  have n1 : h.next.nat < (h.new (rowOf 55 (vC a))).next.nat := by rw [Bq]; omega
  generalize h.new (rowOf 55 (vC a)) = h1 at c2 x1 n1 ⊢
  rw [Abr]
  refine Ahu (by simp) (Dk ?_)
  have c5 : Cel (h1.new (rowOf 55 (vC b))) h1.next 55 (vC b) := .new
  have x2 : Exh h1 (h1.new (rowOf 55 (vC b))) := .new
  have n2 : h1.next.nat < (h1.new (rowOf 55 (vC b))).next.nat := by rw [Bq]; omega
  replace c2 := c2.ext x2 n1
  replace x2 := x1.trans x2
  generalize h1.new (rowOf 55 (vC b)) = h2 at c2 c5 x2 n2 ⊢
  refine Dk ?_
  have c7 : Cel (h2.new Dd) h2.next 55 (vC (0#64, false)) := Ll
  have x3 : Exh h2 (h2.new Dd) := .new
  have n3 : h2.next.nat < (h2.new Dd).next.nat := by rw [Bq]; omega
  replace c2 := c2.ext x3 (by omega)
  replace c5 := c5.ext x3 n2
  replace x3 := x2.trans x3
  generalize h2.new Dd = h3 at c2 c5 c7 x3 n3 ⊢
  rw [Aj]
  refine c2.atp.ld1 (j := 1) (by simp) ?_
  show asB (.bool a.2) _
  rw [Ay]
  refine Te (b := b.2) (fun k' hk' => ?_) ?_
  · rw [Aj]
    refine c5.atp.ld1 (j := 1) (by simp) ?_
    show asB (.bool b.2) _
    rw [Ay]; exact hk'
  rw [A36, Ag]
  refine Dk ?_
  refine Kk (v := (0#64, a.2 || b.2)) fun h4 x4 n4 c20 => ?_
  replace c2 := c2.ext x4 (by omega)
  replace c5 := c5.ext x4 (by omega)
  replace c7 := c7.ext x4 n3
  replace x4 := x3.trans x4
  have ne7 : h2.next ≠ h3.next := fun e => by rw [e] at n3; omega
  have F4 : FrN h.next.nat h h4 := FrN.exh x4 (Nat.le_refl _)
  have fin : ∀ (x : BitVec 64), Hx s a b d = some (x, a.2 || b.2) → st1 (.ptr h3.next (0 + 0)) (uI x) h4 (fun h31 => ldn 2 (.ptr h3.next 0) h31 fun v32 => stn 2 (.ptr h2.next 0) v32 h31 fun h33 => ldn 2 (.ptr h2.next 0) h33 fun v34 => k v34 h33) := fun x hx =>
    Au3 (n0 := h.next.nat) c20 c7 ne7 (by omega) (by omega) (by omega) fun h' f => hk1 _ h' hx (FrO.refl.frn (F4.trans f)) (rs.frn (F4.trans f) rs.2.2.1)
  have la : ∀ K : Int → Prop, K (Int.ofNat a.1.toNat) → Ao 0 (.ptr h.next 0) fun v23 => Go.Den.ld1 v23 h4 fun v24 => asI .u64 v24 K := fun K hK => by
    rw [Aj]
    refine c2.atp.ld1 (j := 0) (by simp) ?_
    show asI .u64 (uI a.1) _
    rw [Ar]; exact hK
  have lb : ∀ K : Int → Prop, K (Int.ofNat b.1.toNat) → Ao 0 (.ptr h1.next 0) fun v23 => Go.Den.ld1 v23 h4 fun v24 => asI .u64 v24 K := fun K hK => by
    rw [Aj]
    refine c5.atp.ld1 (j := 0) (by simp) ?_
    show asI .u64 (uI b.1) _
    rw [Ar]; exact hK
  have out1 : ∀ (v : V) (h5 : H), Hx s a b d = some v → Exh h4 h5 → stn 2 (.ptr h2.next 0) (vI v) h5 fun h8 => ldn 2 (.ptr h2.next 0) h8 fun v9 => k v9 h8 := fun v h5 hv x5 => by
    refine Ig (c7.ext x5 (by omega)) fun h6 f6 => ?_
    have f : FrN h.next.nat h h6 := (F4.trans (FrN.exh x5 (by have := x4.1; omega))).trans (FrN.fro f6 (by omega) (by have := x4.1; have := x5.1; omega))
    exact hk1 v h6 hv (FrO.refl.frn f) (rs.frn f rs.2.2.1)
  rw [Ci (s := s) (t := [124]) (l := 1) (c := 124) rfl rfl, Ci (s := s) (t := [94]) (l := 1) (c := 94) rfl rfl, Ci (s := s) (t := [38]) (l := 1) (c := 38) rfl rfl, Ci (s := s) (t := [43]) (l := 1) (c := 43) rfl rfl, Ci (s := s) (t := [45]) (l := 1) (c := 45) rfl rfl, Ci (s := s) (t := [42]) (l := 1) (c := 42) rfl rfl, Ci (s := s) (t := [47]) (l := 1) (c := 47) rfl rfl, Ci (s := s) (t := [37]) (l := 1) (c := 37) rfl rfl]
  unfold Hx at fin out1 hk2 hk1
  refine Bk (fun e => ?_) (fun e => ?_)
  · refine la _ (lb _ (A98 ?_))
    rw [Aj]
    exact fin _ (if_pos (of_decide_eq_true e))
  rw [if_neg (of_decide_eq_false e)] at fin out1 hk2 hk1
  refine Bk (fun e => ?_) (fun e => ?_)
  · refine la _ (lb _ (Ax4 ?_))
    rw [Aj]
    exact fin _ (if_pos (of_decide_eq_true e))
  rw [if_neg (of_decide_eq_false e)] at fin out1 hk2 hk1
  refine Bk (fun e => ?_) (fun e => ?_)
  · refine la _ (lb _ (Aq7 ?_))
    rw [Aj]
    exact fin _ (if_pos (of_decide_eq_true e))
  rw [if_neg (of_decide_eq_false e)] at fin out1 hk2 hk1
  refine Bk (fun e => ?_) (fun e => ?_)
  · refine la _ (lb _ ?_)
    rw [A66, As, Aj]
    exact fin _ (if_pos (of_decide_eq_true e))
  rw [if_neg (of_decide_eq_false e)] at fin out1 hk2 hk1
  refine Bk (fun e => ?_) (fun e => ?_)
  · refine la _ (lb _ ?_)
    rw [Ay1, As, Aj]
    exact fin _ (if_pos (of_decide_eq_true e))
  rw [if_neg (of_decide_eq_false e)] at fin out1 hk2 hk1
  refine Bk (fun e => ?_) (fun e => ?_)
  · refine la _ (lb _ ?_)
    rw [A64, As, Aj]
    exact fin _ (if_pos (of_decide_eq_true e))
  rw [if_neg (of_decide_eq_false e)] at fin out1 hk2 hk1
  have a2 : (Yd W1 k 3).a2 (.ptr B 0) s.length (enc s) d (.ptr h.next 0) (.ptr h1.next 0) (.ptr h2.next 0) (a.2 || b.2) (.ptr h3.next 0) s.length (enc s) (decide (s = [47]) || decide (s = [37])) h4 := by
    refine A3b ?_
    unfold Ac1
    refine Bk (fun e => ?_) (fun e => ?_)
    · have e : s = [47] ∨ s = [37] := by simpa using e
      rw [if_pos e] at fin out1 hk2 hk1
      refine lb _ ?_
      rw [bv0]
      refine Bk (fun e0 => ?_) (fun e0 => ?_)
      · have e0 : b.1 = 0#64 := of_decide_eq_true e0
        rw [if_pos e0] at fin out1 hk2 hk1
        have rs4 := rs.frn F4 rs.2.2.1
        rw [Bz, Ag, Aj]
        refine rs4.l2 ?_
        rw [Ay]
        refine Fk ?_
        rw [Bz, Ag, Aj]
        refine rs4.s2 fun h5 f5 rs5 => ?_
        have nB : B.nat < h.next.nat := rs.2.2.1
        have c20' := c20.fr f5 n4 (fun e' => by have := x3.1; rw [e'] at this; omega)
        have c7' := c7.fr f5 (by omega) (fun e' => by have := x2.1; rw [e'] at this; omega)
        refine c20'.atp.ldn rfl ?_
        refine Ig (v := (0#64, a.2 || b.2)) c7' fun h6 f6 => ?_
        have f46 : FrO B h h6 := ((FrO.refl.frn F4).trans f5).loc f6 (by have := x2.1; omega)
        have rs6 := rs5.loc f6 (by have := x2.1; omega) (by have := f5.1; omega)
        cases d with
        | true => rw [Bool.or_true] at rs6; exact hk2 _ h6 (if_pos rfl) f46 rs6
        | false => rw [Bool.or_false] at rs6; exact hk1 _ h6 (if_neg (by simp)) f46 rs6
      · have e0 : ¬ b.1 = 0#64 := of_decide_eq_false e0
        rw [if_neg e0] at fin out1 hk2 hk1
        refine la _ (lb _ ?_)
        refine Ek (Bit s a.1 b.1 (a.2 || b.2) e0) ?_
        rw [Ar, Aj]
        exact fin _ rfl
    · have e : ¬ (s = [47] ∨ s = [37]) := by simpa using e
      rw [if_neg e] at fin out1 hk2 hk1
      have a1 : ∀ q, q = decide (s = [60, 60] ∨ s = [62, 62]) → (Yd W1 k 2).a1 s.length (enc s) (.ptr h.next 0) (.ptr h1.next 0) (.ptr h2.next 0) (a.2 || b.2) q h4 := fun q hq => by
        subst hq
        refine A3c ?_
        unfold Ac2
        refine Bk (fun e => ?_) (fun e => ?_)
        · have e : s = [60, 60] ∨ s = [62, 62] := of_decide_eq_true e
          rw [if_pos e] at out1
          refine c2.atp.ldn rfl ?_
          refine lb _ ?_
          rw [show (Int.ofNat 63) = Int.ofNat (63#64).toNat from rfl]
          refine Aq7 ?_
          refine Ek (Bis s a (n := (b.1 &&& 63#64).toNat) ?_) ?_
          · rw [BitVec.toNat_and]; exact Nat.lt_of_le_of_lt Nat.and_le_right (by decide)
          · exact out1 _ h4 rfl .refl
        · have e : ¬ (s = [60, 60] ∨ s = [62, 62]) := of_decide_eq_false e
          rw [if_neg e] at out1
          refine la _ (lb _ ?_)
          refine Ek (Bir s a.1 b.1 (a.2 || b.2)) ?_
          rw [Ay]
          refine Ek (Axa _) ?_
          exact out1 _ h4 rfl .refl
      rw [Ci (s := s) (t := [60, 60]) (l := 2) (c := 15420) rfl rfl, Ci (s := s) (t := [62, 62]) (l := 2) (c := 15934) rfl rfl]
      refine Bk (fun e2 => a1 _ ?_) (fun e2 => a1 _ ?_)
      · have e2' := of_decide_eq_true e2
        simp [e2']
      · have e2' := of_decide_eq_false e2
        simp [e2']
  refine Bk (fun e => ?_) (fun e => ?_)
  · rw [e, Bool.true_or] at a2
    rw [e]; exact a2
  · rw [e, Bool.false_or] at a2
    exact a2
end
theorem Atb {h : H} {v : AV} {row : List (List UInt8)} {s : List UInt8} {k : KV} (hr : Rd 1 h v (es row)) (hl : row.length ≤ 100) (hk : ∀ z : Int, (Gu (Int.ofNat 0) z = decide (s ∈ row)) → k (.int .i64 z) h) : ∀ (n i : Nat), row.length - i < n → i ≤ row.length → (∀ x ∈ row.take i, s ≠ x) → (Aga W1 k n).a1 v s.length (enc s) (Int.ofNat row.length) (Int.ofNat i) h
  | 0, _, hn, _, _ => absurd hn (Nat.not_lt_zero _)
  | n + 1, i, hn, hi, hno => by
    refine A21 ?_
    unfold Ab9
    rw [ilt]
    refine Bk (fun e => ?_) (fun e => ?_)
    · have e : i < row.length := of_decide_eq_true e
      rw [Be]
      refine hr.str e ?_
      rw [Di, En]
      refine Bk (fun e2 => ?_) (fun e2 => ?_)
      · have e2 : s = row[i] := of_decide_eq_true e2
        refine hk _ ?_
        rw [ile, decide_eq_true (Nat.zero_le _)]
        exact (decide_eq_true (by rw [e2]; exact List.getElem_mem e)).symm
      · rw [Dx, Dv (by omega), As]
        refine Atb hr hl hk n (i + 1) (by omega) e fun x hx => ?_
        rw [List.take_succ_eq_append_getElem e] at hx
        rcases List.mem_append.1 hx with hx | hx
        · exact hno x hx
        · simp only [List.mem_singleton] at hx; subst hx; exact of_decide_eq_false e2
    · have e : i = row.length := by have := of_decide_eq_false e; omega
      rw [e, List.take_length] at hno
      refine hk _ ?_
      rw [decide_eq_false (fun hm => hno s hm rfl)]; rfl
theorem Biu {h : H} {v : AV} {row : List (List UInt8)} {s : List UInt8} {k : KV} (hr : Rd 1 h v (es row)) (hl : row.length ≤ 100) (hk : k (.bool (decide (s ∈ row))) h) : W1 (.func 185) [v, S s] h k := by
  refine A7g (n := 1) Ca (Bg8 ?_)
  unfold Ack
  refine A68 (n := row.length + 2) Ca (Bg0 ?_)
  unfold Aca
  rw [hr.len, Pq]
  refine Atb hr hl (fun z hz => ?_) (row.length + 1) 0 (by omega) (Nat.zero_le _) (fun x hx => by simp at hx)
  rw [Ar, hz]; exact hk
theorem A0w {T : Tm} {n : Nat} {e : TypeId} {cs : List AV} (hc : Bf T n 0 = cs) (hn : cs.length = n) (h : H) : Rd 1 (h.new (.row T n 0 e true)) (.slice h.next 0 n 1 true) (cs.map fun c => [c]) := by
  subst hn
  refine ⟨h.next, 0, T, cs.length, 0, e, true, true, by rw [List.length_map], by rw [Bq]; omega, Cm _ _, by rw [List.length_map]; omega, fun i hi => ?_⟩
  have hi' : i < cs.length := by rw [List.length_map] at hi; exact hi
  rw [List.getElem_map]
  refine ⟨rfl, fun j hj => ?_⟩
  have hj : j = 0 := by simp at hj; exact hj
  subst hj
  have h1 : (Bf T cs.length 0)[i]? = some cs[i] := by
    rw [hc, List.getElem?_eq_getElem hi']
  rw [Gj, List.getElem?_map, List.getElem?_range hi'] at h1
  have h2 := Option.some.inj h1
  show Cg T (0 + i * 1 + 0) = _
  rw [show 0 + i * 1 + 0 = 0 + i by omega]; exact h2
theorem Oe {T : Tm} {n : Nat} {e : TypeId} {row : List (List UInt8)} (hc : Bf T n 0 = row.map fun s => S s) (hn : row.length = n) (h : H) : Rd 1 (h.new (.row T n 0 e true)) (.slice h.next 0 n 1 true) (es row) := by
  have := A0w (e := e) hc (by rw [List.length_map]; exact hn) h
  rw [List.map_map] at this
  exact this
def L0t : Tm := Option.rec .e (fun t => t) (Gw (Ft 1) 1 [(0, (.str 2 31868))] (Aq (Gf [.str 0 0] 1) 0 .e))
theorem L0b (h : H) : Ak env 44 (fun e ei => Ae 1 [(0, (.str 2 31868))] h e ei) = some (.slice h.next 0 1 1 true, h.new (.row L0t 1 0 9 true)) := by kernel_rfl
theorem L0c : Bf L0t 1 0 = ([[124, 124]] : List (List UInt8)).map fun s => S s := by kernel_rfl
def L1t : Tm := Option.rec .e (fun t => t) (Gw (Ft 1) 1 [(0, (.str 2 9766))] (Aq (Gf [.str 0 0] 1) 0 .e))
theorem L1b (h : H) : Ak env 44 (fun e ei => Ae 1 [(0, (.str 2 9766))] h e ei) = some (.slice h.next 0 1 1 true, h.new (.row L1t 1 0 9 true)) := by kernel_rfl
theorem L1c : Bf L1t 1 0 = ([[38, 38]] : List (List UInt8)).map fun s => S s := by kernel_rfl
def L2t : Tm := Option.rec .e (fun t => t) (Gw (Ft 1) 1 [(0, (.str 1 124))] (Aq (Gf [.str 0 0] 1) 0 .e))
theorem L2b (h : H) : Ak env 44 (fun e ei => Ae 1 [(0, (.str 1 124))] h e ei) = some (.slice h.next 0 1 1 true, h.new (.row L2t 1 0 9 true)) := by kernel_rfl
theorem L2c : Bf L2t 1 0 = ([[124]] : List (List UInt8)).map fun s => S s := by kernel_rfl
def L3t : Tm := Option.rec .e (fun t => t) (Gw (Ft 1) 1 [(0, (.str 1 94))] (Aq (Gf [.str 0 0] 1) 0 .e))
theorem L3b (h : H) : Ak env 44 (fun e ei => Ae 1 [(0, (.str 1 94))] h e ei) = some (.slice h.next 0 1 1 true, h.new (.row L3t 1 0 9 true)) := by kernel_rfl
theorem L3c : Bf L3t 1 0 = ([[94]] : List (List UInt8)).map fun s => S s := by kernel_rfl
def L4t : Tm := Option.rec .e (fun t => t) (Gw (Ft 1) 1 [(0, (.str 1 38))] (Aq (Gf [.str 0 0] 1) 0 .e))
theorem L4b (h : H) : Ak env 44 (fun e ei => Ae 1 [(0, (.str 1 38))] h e ei) = some (.slice h.next 0 1 1 true, h.new (.row L4t 1 0 9 true)) := by kernel_rfl
theorem L4c : Bf L4t 1 0 = ([[38]] : List (List UInt8)).map fun s => S s := by kernel_rfl
def L5t : Tm := Option.rec .e (fun t => t) (Gw (Ft 1) 2 [(0, (.str 2 15677)), (1, (.str 2 15649))] (Aq (Gf [.str 0 0] 2) 0 .e))
theorem L5b (h : H) : Ak env 44 (fun e ei => Ae 2 [(0, (.str 2 15677)), (1, (.str 2 15649))] h e ei) = some (.slice h.next 0 2 1 true, h.new (.row L5t 2 0 9 true)) := by kernel_rfl
theorem L5c : Bf L5t 2 0 = ([[61, 61], [33, 61]] : List (List UInt8)).map fun s => S s := by kernel_rfl
def L6t : Tm := Option.rec .e (fun t => t) (Gw (Ft 1) 4 [(0, (.str 1 60)), (1, (.str 1 62)), (2, (.str 2 15676)), (3, (.str 2 15678))] (Aq (Gf [.str 0 0] 4) 0 .e))
theorem L6b (h : H) : Ak env 44 (fun e ei => Ae 4 [(0, (.str 1 60)), (1, (.str 1 62)), (2, (.str 2 15676)), (3, (.str 2 15678))] h e ei) = some (.slice h.next 0 4 1 true, h.new (.row L6t 4 0 9 true)) := by kernel_rfl
theorem L6c : Bf L6t 4 0 = ([[60], [62], [60, 61], [62, 61]] : List (List UInt8)).map fun s => S s := by kernel_rfl
def L7t : Tm := Option.rec .e (fun t => t) (Gw (Ft 1) 2 [(0, (.str 2 15420)), (1, (.str 2 15934))] (Aq (Gf [.str 0 0] 2) 0 .e))
theorem L7b (h : H) : Ak env 44 (fun e ei => Ae 2 [(0, (.str 2 15420)), (1, (.str 2 15934))] h e ei) = some (.slice h.next 0 2 1 true, h.new (.row L7t 2 0 9 true)) := by kernel_rfl
theorem L7c : Bf L7t 2 0 = ([[60, 60], [62, 62]] : List (List UInt8)).map fun s => S s := by kernel_rfl
def L8t : Tm := Option.rec .e (fun t => t) (Gw (Ft 1) 2 [(0, (.str 1 43)), (1, (.str 1 45))] (Aq (Gf [.str 0 0] 2) 0 .e))
theorem L8b (h : H) : Ak env 44 (fun e ei => Ae 2 [(0, (.str 1 43)), (1, (.str 1 45))] h e ei) = some (.slice h.next 0 2 1 true, h.new (.row L8t 2 0 9 true)) := by kernel_rfl
theorem L8c : Bf L8t 2 0 = ([[43], [45]] : List (List UInt8)).map fun s => S s := by kernel_rfl
def L9t : Tm := Option.rec .e (fun t => t) (Gw (Ft 1) 3 [(0, (.str 1 42)), (1, (.str 1 47)), (2, (.str 1 37))] (Aq (Gf [.str 0 0] 3) 0 .e))
theorem L9b (h : H) : Ak env 44 (fun e ei => Ae 3 [(0, (.str 1 42)), (1, (.str 1 47)), (2, (.str 1 37))] h e ei) = some (.slice h.next 0 3 1 true, h.new (.row L9t 3 0 9 true)) := by kernel_rfl
theorem L9c : Bf L9t 3 0 = ([[42], [47], [37]] : List (List UInt8)).map fun s => S s := by kernel_rfl
def LLt (p0 p1 p2 p3 p4 p5 p6 p7 p8 p9 : P) : Tm := Option.rec .e (fun t => t) (Gw (Ft 1) 10 [(0, (.slice p0 0 1 1 true)), (1, (.slice p1 0 1 1 true)), (2, (.slice p2 0 1 1 true)), (3, (.slice p3 0 1 1 true)), (4, (.slice p4 0 1 1 true)), (5, (.slice p5 0 2 1 true)), (6, (.slice p6 0 4 1 true)), (7, (.slice p7 0 2 1 true)), (8, (.slice p8 0 2 1 true)), (9, (.slice p9 0 3 1 true))] (Aq (Gf [.Cd] 10) 0 .e))
theorem LLb (p0 p1 p2 p3 p4 p5 p6 p7 p8 p9 : P) (h : H) : Ak env 245 (fun e ei => Ae 10 [(0, (.slice p0 0 1 1 true)), (1, (.slice p1 0 1 1 true)), (2, (.slice p2 0 1 1 true)), (3, (.slice p3 0 1 1 true)), (4, (.slice p4 0 1 1 true)), (5, (.slice p5 0 2 1 true)), (6, (.slice p6 0 4 1 true)), (7, (.slice p7 0 2 1 true)), (8, (.slice p8 0 2 1 true)), (9, (.slice p9 0 3 1 true))] h e ei) = some (.slice h.next 0 10 1 true, h.new (.row (LLt p0 p1 p2 p3 p4 p5 p6 p7 p8 p9) 10 0 44 true)) := by kernel_rfl
theorem LLc (p0 p1 p2 p3 p4 p5 p6 p7 p8 p9 : P) : Bf (LLt p0 p1 p2 p3 p4 p5 p6 p7 p8 p9) 10 0 = [.slice p0 0 1 1 true, .slice p1 0 1 1 true, .slice p2 0 1 1 true, .slice p3 0 1 1 true, .slice p4 0 1 1 true, .slice p5 0 2 1 true, .slice p6 0 4 1 true, .slice p7 0 2 1 true, .slice p8 0 2 1 true, .slice p9 0 3 1 true] := by kernel_rfl
def lvV (s : List UInt8) (n : Nat) : AV := if n = 0 then .tuple [(.str 0 0), (.int .i64 (Int.ofNat 0))] else .tuple [S s, (.int .i64 (Int.ofNat n))]
theorem Atf {h : H} {v : AV} {vs : List AV} {s : List UInt8} {k : KV} (hr : Rd 1 h v (vs.map fun c => [c])) (hv : vs.length = 10) (hrow : ∀ i (hi : i < vs.length) (hj : i < Ld.length), Rd 1 h vs[i] (es Ld[i])) : ∀ (n i : Nat), 10 - i < n → i ≤ 10 → k (lvV s (Wc (Ld.drop i) i s)) h → (Adv W1 k n).a1 s.length (enc s) v (Int.ofNat 10) (Int.ofNat i) h
  | 0, _, hn, _, _ => absurd hn (Nat.not_lt_zero _)
  | n + 1, i, hn, hi, hk => by
    refine A3d ?_
    unfold Ac4
    rw [ilt]
    refine Bk (fun e => ?_) (fun e => ?_)
    · have e : i < 10 := of_decide_eq_true e
      have e1 : i < vs.length := by omega
      have e2 : i < Ld.length := e
      rw [Be]
      refine hr.elem (i := i) (by rw [List.length_map]; exact e1) fun q o hq _ hat => ?_
      rw [List.getElem_map] at hat
      have := hat.ld1 (j := 0) (K := fun v68 => W1 (.func 185) [v68, S s] h fun v69 h70 => asB v69 fun b71 => cnd b71 (fI (wrap .i64 (Cf (Int.ofNat i) (Int.ofNat 1))) fun n72 => k (.tuple [S s, (.int .i64 n72)]) h70) (fI (wrap .i64 (Cf (Int.ofNat i) (Int.ofNat 1))) fun n73 => (Adv W1 k n).a1 s.length (enc s) v (Int.ofNat 10) n73 h70)) Nat.one_pos ?_
      · exact this
      · show W1 (.func 185) [vs[i], S s] h _
        rw [List.drop_eq_getElem_cons e2, Wc] at hk
        refine Biu (hrow i e1 e2) ?_ ?_
        · exact (show ∀ r ∈ Ld, r.length ≤ 100 by decide) _ (List.getElem_mem e2)
        · rw [Ay]
          refine Bk (fun em => ?_) (fun em => ?_)
          · rw [if_pos (of_decide_eq_true em)] at hk
            rw [Dx, Dv (by omega), As]
            unfold lvV at hk
            rw [if_neg (Nat.succ_ne_zero _)] at hk
            exact hk
          · rw [if_neg (of_decide_eq_false em)] at hk
            rw [Dx, Dv (by omega), As]
            exact Atf hr hv hrow n (i + 1) (by omega) e hk
    · have e : i = 10 := by have := of_decide_eq_false e; omega
      subst e
      exact hk
end Go.Den
noncomputable section
namespace Go.Den
open Go.RowKit
open Go.Pre (V Ir vz Ew Kg Jo Jm Hx Ld Wc Ad7 evB Kc unary Abm Vu)
set_option maxRecDepth 100000
abbrev Cb := Go.Pre.Tok
def tk (x : Gy) : Cb := (x.kind.toNat, x.text)
def Kb (t : Cb) : Option V :=
  if t.1 = 2 then (Pe t.2).map fun p => (BitVec.ofNat 64 p.1, p.2)
  else if t.1 = 1 then some (0#64, false) else none
abbrev unP (C : Bool → List Cb → Go.Pre.R V Cb) := unary Kb Kg Jo Jm C
abbrev cdP (n : Nat) := Vu Kb Kg Jo Jm vz Ew Go.Pre.lvl Go.Pre.need Go.Pre.two n
abbrev evP (C : Bool → List Cb → Go.Pre.R V Cb) := evB Go.Pre.lvl Go.Pre.need Go.Pre.two (unP C)
abbrev loP (C : Bool → List Cb → Go.Pre.R V Cb) := Kc Go.Pre.lvl Go.Pre.need Go.Pre.two (unP C)
section
variable {C : Bool → List Cb → Go.Pre.R V Cb} {d : Bool} {t : Cb} {r : List Cb}
theorem Auw : unP C d (Go.Pre.P [43] :: r) = unP C d r := Go.Pre.Auu
theorem Ao0 : unP C d (Go.Pre.P [45] :: r) = (unP C d r).map fun p => (Kg p.1, p.2) := Go.Pre.Ay5
theorem Ao1 : unP C d (Go.Pre.P [126] :: r) = (unP C d r).map fun p => (Jo p.1, p.2) := Go.Pre.Ay6
theorem Aoz : unP C d (Go.Pre.P [33] :: r) = (unP C d r).map fun p => (Jm p.1, p.2) := Go.Pre.Ay4
theorem Aoy : unP C d (Go.Pre.P [40] :: r) = Go.Pre.Aix (C d r) := Go.Pre.Ay3
theorem Akg (h1 : t ≠ Go.Pre.P [43]) (h2 : t ≠ Go.Pre.P [45]) (h3 : t ≠ Go.Pre.P [126]) (h4 : t ≠ Go.Pre.P [33]) (h5 : t ≠ Go.Pre.P [40]) : unP C d (t :: r) = (Kb t).map fun v => (v, r) := Go.Pre.Aut h1 h2 h3 h4 h5
end
def Res (T : List Cb) (o : Go.Pre.R V Cb) (i : Nat) (b : Bool) (v : V) : Prop := match o with
  | some p => b = false ∧ v = p.1 ∧ i ≤ T.length ∧ T.drop i = p.2
  | none => b = true
def Vy (hE : H) (B : P) (vL : AV) (T : List Cb) (h0 : H) (o : Go.Pre.R V Cb) (i : Nat) (k : KV) : Prop :=
  ∀ h' v i' b, FrO B h0 h' → Rz hE B vL i' b h' → i ≤ i' → i' ≤ T.length + 1 → Res T o i' b v → k (vI v) h'
theorem A37 (v : AV) (hv : Sl v) (h : H) : Bt env (env.ty 121) [(0, v)] h = some (.agg [v, .int .i64 (Int.ofNat 0), .bool false], h) := by
  rcases hv with rfl | ⟨b, o, n, z, t, rfl⟩
  · kernel_rfl
  · kernel_rfl
theorem Bcw {x : Gy} (hs : Sl x.sites) : Iy 4 (.agg x.cells) (.agg x.cells) = true := by
  have e : Iy 4 (.agg x.cells) (.agg x.cells) = allEq (Iy 3) x.cells x.cells := rfl
  rw [e]
  have h8 : Iy 3 x.sites x.sites = true := by
    rcases hs with h | ⟨b, o, n, z, t, h⟩
    · rw [h]; rfl
    · rw [h]; exact Bcx
  have hB : ∀ b : Bool, Iy 3 (.bool b) (.bool b) = true := fun b => by cases b <;> rfl
  unfold Gy.cells
  simp only [allEq, avI, avS, hB, h8]
  rfl
theorem avV {v : V} : Iy 4 (vI v) (vI v) = true := by
  have e : Iy 4 (vI v) (vI v) = allEq (Iy 3) (vC v) (vC v) := rfl
  rw [e]
  have hB : ∀ b : Bool, Iy 3 (.bool b) (.bool b) = true := fun b => by cases b <;> rfl
  simp only [allEq, avI, hB]
  rfl
theorem Ad4 {u ok : Bool} {B : Nat} {set dd : List UInt8} {p : Nat × Bool} (h : Wb u ok B set dd = some p) : p.1 < 18446744073709551616 := by
  unfold Wb at h
  split at h
  · cases h
  · split at h
    · cases h; assumption
    · cases h
theorem Av0 {s : List UInt8} {p : Nat × Bool} (h : Pe s = some p) : p.1 < 18446744073709551616 := by
  unfold Pe at h
  split at h
  · exact Ad4 h
  · split at h
    · exact Ad4 h
    · exact Ad4 h
section
variable {hE : H} {L : List Gy} {vL : AV} {B : P} (hr : RdT hE vL L) (hl : L.length ≤ 1000000)
include hr hl
theorem c88 {s : List UInt8} {i : Nat} {b : Bool} {h : H} {k : KV} (rs : Rz hE B vL i b h) (hk1 : ∀ h' (hlt : i < L.length), tk L[i] = Go.Pre.P s → FrO B h h' → Rz hE B vL (i + 1) b h' → k (.bool true) h')
    (hk2 : ∀ h', (∀ hlt : i < L.length, ¬ tk L[i] = Go.Pre.P s) → FrO B h h' → Rz hE B vL i b h' → k (.bool false) h') : W1 (.func 88) [.ptr B 0, S s] h k := by
  refine w88 (n := 1) Ca (g88 ?_)
  unfold Akl
  rw [Bz, Ag, Aj]
  refine rs.l1 ?_
  rw [Ar, Bz, Ag, Aj]
  refine rs.l0 ?_
  rw [hr.len, ilt]
  refine Lp (fun e => ?_) (fun e => ?_)
  · have e : i < L.length := of_decide_eq_true e
    rw [Bz, Ag, Aj]
    refine rs.l0 ?_
    rw [Bz, Ag, Aj]
    refine rs.l1 ?_
    rw [Ar, Be]
    refine (hr.rd e).tok rs.1 e ?_
    refine Bi4 L[i] s fun h1 x1 => ?_
    rw [Ay]
    have rs1 := rs.ext x1
    refine Bk (fun e1 => ?_) (fun e1 => ?_)
    · rw [e1]
      rw [Bool.and_eq_true, decide_eq_true_eq, decide_eq_true_eq] at e1
      rw [Bz, Ag, Aj]
      refine rs1.l1 ?_
      rw [Ar, Dx, Dv (by omega), As, Bz, Ag, Aj]
      refine rs1.s1 fun h2 f2 rs2 => ?_
      exact hk1 h2 e (by unfold tk Go.Pre.P; rw [e1.1, e1.2]; rfl) ((FrO.exh x1).trans f2) rs2
    · rw [e1]
      rw [Bool.and_eq_false_iff, decide_eq_false_iff_not, decide_eq_false_iff_not] at e1
      refine hk2 h1 (fun _ ht => ?_) (.exh x1) rs1
      unfold tk Go.Pre.P at ht
      have t1 := congrArg Prod.fst ht
      have t2 := congrArg Prod.snd ht
      simp only [] at t1 t2
      rcases e1 with e1 | e1
      · exact e1 (by omega)
      · exact e1 t2
  · have e : ¬ i < L.length := of_decide_eq_false e
    exact Am rfl (hk2 h (fun hlt => absurd hlt e) .refl rs)
def Abf : List Cb → AV
  | [] => .tuple [(.str 0 0), (.int .i64 (Int.ofNat 0))]
  | t :: _ => lvV t.2 (Go.Pre.lvl t)
omit hr hl in
theorem Awi {t : Cb} {r : List Cb} (h : Go.Pre.lvl t = 0) : Abf (t :: r) = .tuple [(.str 0 0), (.int .i64 (Int.ofNat 0))] := if_pos h
omit hr hl in
theorem Al7 {t : Cb} {r : List Cb} (h : Go.Pre.lvl t ≠ 0) : Abf (t :: r) = .tuple [S t.2, (.int .i64 (Int.ofNat (Go.Pre.lvl t)))] := if_neg h
omit hl in
theorem Bi2 {i : Nat} {b : Bool} {h : H} {k : KV} (rs : Rz hE B vL i b h) (hk : ∀ h', Exh h h' → k (Abf ((L.map tk).drop i)) h') : W1 (.func 140) [.ptr B 0] h k := by
  refine A7p (n := 12) Ca (Bhh ?_)
  unfold Ac5
  rw [Bz, Ag, Aj]
  refine rs.l1 ?_
  rw [Ar, Bz, Ag, Aj]
  refine rs.l0 ?_
  rw [hr.len, ile]
  by_cases e : i < L.length
  · have hd : (L.map tk).drop i = tk L[i] :: (L.map tk).drop (i + 1) := by
      rw [List.drop_eq_getElem_cons (by rw [List.length_map]; exact e), List.getElem_map]
    rw [hd] at hk
    have hi' : i < (L.map Gy.cells).length := by rw [List.length_map]; exact e
    refine Te (b := Ck (decide (L[i].kind = 5))) (fun k' hk' => ?_) ?_
    · rw [Bz, Ag, Aj]
      refine rs.l0 ?_
      rw [Bz, Ag, Aj]
      refine rs.l1 ?_
      rw [Ar, Be]
      refine ((hr.rd e).ext rs.1).elem hi' fun q o hq _ hat => ?_
      rw [Ky e] at hat
      rw [Aj]
      refine hat.ld1 (j := 0) (by show 0 < 8; decide) ?_
      show asI .i64 (.int .i64 L[i].kind) _
      rw [Ar, Ag8]; exact hk'
    rw [decide_eq_false (show ¬ L.length ≤ i by omega), Bool.false_or]
    refine Bk (fun e5 => ?_) (fun e5 => ?_)
    · have h5 : ¬ L[i].kind = 5 := by simpa [Bv] using e5
      have hl0 : Go.Pre.lvl (tk L[i]) = 0 := if_neg (by unfold tk; simp only []; omega)
      have := hk h .refl
      rw [show Abf (tk L[i] :: (L.map tk).drop (i + 1)) = lvV L[i].text (Go.Pre.lvl (tk L[i])) from rfl, hl0] at this
      exact this
    · have h5 : L[i].kind = 5 := by simpa [Bv] using e5
      rw [Bz, Ag, Aj]
      refine rs.l0 ?_
      rw [Bz, Ag, Aj]
      refine rs.l1 ?_
      rw [Ar, Be]
      refine ((hr.rd e).ext rs.1).elem hi' fun q o hq _ hat => ?_
      rw [Ky e] at hat
      rw [Aj]
      refine hat.ld1 (j := 1) (by show 1 < 8; decide) ?_
      show asS (S L[i].text) _
      rw [Di]
      rw [L0b, Ag]
      have r0 := Oe (e := 9) L0c rfl h
      have x0 : Exh h (h.new (.row L0t 1 0 9 true)) := .new
      generalize h.new (.row L0t 1 0 9 true) = h0' at r0 x0 ⊢
      rw [L1b, Ag]
      have r1 := Oe (e := 9) L1c rfl h0'
      have y : Exh h0' (h0'.new (.row L1t 1 0 9 true)) := .new
      replace r0 := r0.ext y
      replace x0 := x0.trans y
      generalize h0'.new (.row L1t 1 0 9 true) = h1' at r0 r1 x0 ⊢
      clear y
      rw [L2b, Ag]
      have r2 := Oe (e := 9) L2c rfl h1'
      have y : Exh h1' (h1'.new (.row L2t 1 0 9 true)) := .new
      replace r0 := r0.ext y
      replace r1 := r1.ext y
      replace x0 := x0.trans y
      generalize h1'.new (.row L2t 1 0 9 true) = h2' at r0 r1 r2 x0 ⊢
      clear y
      rw [L3b, Ag]
      have r3 := Oe (e := 9) L3c rfl h2'
      have y : Exh h2' (h2'.new (.row L3t 1 0 9 true)) := .new
      replace r0 := r0.ext y
      replace r1 := r1.ext y
      replace r2 := r2.ext y
      replace x0 := x0.trans y
      generalize h2'.new (.row L3t 1 0 9 true) = h3' at r0 r1 r2 r3 x0 ⊢
      clear y
      rw [L4b, Ag]
      have r4 := Oe (e := 9) L4c rfl h3'
      have y : Exh h3' (h3'.new (.row L4t 1 0 9 true)) := .new
      replace r0 := r0.ext y
      replace r1 := r1.ext y
      replace r2 := r2.ext y
      replace r3 := r3.ext y
      replace x0 := x0.trans y
      generalize h3'.new (.row L4t 1 0 9 true) = h4' at r0 r1 r2 r3 r4 x0 ⊢
      clear y
      rw [L5b, Ag]
      have r5 := Oe (e := 9) L5c rfl h4'
      have y : Exh h4' (h4'.new (.row L5t 2 0 9 true)) := .new
      replace r0 := r0.ext y
      replace r1 := r1.ext y
      replace r2 := r2.ext y
      replace r3 := r3.ext y
      replace r4 := r4.ext y
      replace x0 := x0.trans y
      generalize h4'.new (.row L5t 2 0 9 true) = h5' at r0 r1 r2 r3 r4 r5 x0 ⊢
      clear y
      rw [L6b, Ag]
      have r6 := Oe (e := 9) L6c rfl h5'
      have y : Exh h5' (h5'.new (.row L6t 4 0 9 true)) := .new
      replace r0 := r0.ext y
      replace r1 := r1.ext y
      replace r2 := r2.ext y
      replace r3 := r3.ext y
      replace r4 := r4.ext y
      replace r5 := r5.ext y
      replace x0 := x0.trans y
      generalize h5'.new (.row L6t 4 0 9 true) = h6' at r0 r1 r2 r3 r4 r5 r6 x0 ⊢
      clear y
      rw [L7b, Ag]
      have r7 := Oe (e := 9) L7c rfl h6'
      have y : Exh h6' (h6'.new (.row L7t 2 0 9 true)) := .new
      replace r0 := r0.ext y
      replace r1 := r1.ext y
      replace r2 := r2.ext y
      replace r3 := r3.ext y
      replace r4 := r4.ext y
      replace r5 := r5.ext y
      replace r6 := r6.ext y
      replace x0 := x0.trans y
      generalize h6'.new (.row L7t 2 0 9 true) = h7' at r0 r1 r2 r3 r4 r5 r6 r7 x0 ⊢
      clear y
      rw [L8b, Ag]
      have r8 := Oe (e := 9) L8c rfl h7'
      have y : Exh h7' (h7'.new (.row L8t 2 0 9 true)) := .new
      replace r0 := r0.ext y
      replace r1 := r1.ext y
      replace r2 := r2.ext y
      replace r3 := r3.ext y
      replace r4 := r4.ext y
      replace r5 := r5.ext y
      replace r6 := r6.ext y
      replace r7 := r7.ext y
      replace x0 := x0.trans y
      generalize h7'.new (.row L8t 2 0 9 true) = h8' at r0 r1 r2 r3 r4 r5 r6 r7 r8 x0 ⊢
      clear y
      rw [L9b, Ag]
      have r9 := Oe (e := 9) L9c rfl h8'
      have y : Exh h8' (h8'.new (.row L9t 3 0 9 true)) := .new
      replace r0 := r0.ext y
      replace r1 := r1.ext y
      replace r2 := r2.ext y
      replace r3 := r3.ext y
      replace r4 := r4.ext y
      replace r5 := r5.ext y
      replace r6 := r6.ext y
      replace r7 := r7.ext y
      replace r8 := r8.ext y
      replace x0 := x0.trans y
      generalize h8'.new (.row L9t 3 0 9 true) = h9' at r0 r1 r2 r3 r4 r5 r6 r7 r8 r9 x0 ⊢
      clear y
      rw [LLb, Ag, Nh]
      generalize h.next = p0, h0'.next = p1, h1'.next = p2, h2'.next = p3, h3'.next = p4, h4'.next = p5, h5'.next = p6, h6'.next = p7, h7'.next = p8, h8'.next = p9 at *
      have rr := A0w (e := 44) (LLc p0 p1 p2 p3 p4 p5 p6 p7 p8 p9) rfl h9'
      have y : Exh h9' (h9'.new (.row (LLt p0 p1 p2 p3 p4 p5 p6 p7 p8 p9) 10 0 44 true)) := .new
      generalize h9'.new (.row (LLt p0 p1 p2 p3 p4 p5 p6 p7 p8 p9) 10 0 44 true) = h10' at rr y ⊢
      refine Atf rr rfl (fun i hi hj => ?_) 11 0 (by omega) (by omega) ?_
      · match i, hi with
        | 0, _ => exact r0.ext y
        | 1, _ => exact r1.ext y
        | 2, _ => exact r2.ext y
        | 3, _ => exact r3.ext y
        | 4, _ => exact r4.ext y
        | 5, _ => exact r5.ext y
        | 6, _ => exact r6.ext y
        | 7, _ => exact r7.ext y
        | 8, _ => exact r8.ext y
        | 9, _ => exact r9.ext y
        | n + 10, hn => exact absurd hn (by show ¬ n + 10 < 10; omega)
      · have := hk h10' (x0.trans y)
        rw [show Abf (tk L[i] :: (L.map tk).drop (i + 1)) = lvV L[i].text (Go.Pre.lvl (tk L[i])) from rfl, show Go.Pre.lvl (tk L[i]) = Wc (Ld.drop 0) 0 L[i].text from if_pos (by unfold tk; simp only []; omega)] at this
        exact this
  · have hd : (L.map tk).drop i = [] := List.drop_eq_nil_of_le (by rw [List.length_map]; omega)
    rw [hd] at hk
    rw [decide_eq_true (show L.length ≤ i by omega)]
    refine Wa (fun e => nomatch e) (fun _ => ?_)
    exact Bo rfl (hk h .refl)
omit hr in
theorem Ajt {i n : Nat} {h0 h : H} {p1 : P} {v : V} {ok : Bool} {k : KV} (hi : i ≤ L.length) (rs : Rz hE B vL i false h) (f0 : FrO B h0 h) (c1 : Cel h p1 55 (vC v)) (l1 : h0.next.nat ≤ p1.nat) (u1 : p1.nat < h.next.nat) (hB : B.nat < h0.next.nat) (hk : ∀ h', FrO B h0 h' → Rz hE B vL (i + 1) (!ok) h' → k (vI v) h') :
    (Adu W1 k (n + 1)).a1 (.ptr B 0) (.ptr p1 0) ok h := by
  refine A23 ?_
  unfold Acl
  rw [Bz, Ag, Aj]
  refine rs.l1 ?_
  rw [Ar, Dx, Dv (by omega), As, Bz, Ag, Aj]
  refine rs.s1 fun h1 f1 rs1 => ?_
  rw [Bz, Ag, Aj]
  refine rs1.l2 ?_
  rw [Ay]
  refine Fk ?_
  rw [Bz, Ag, Aj]
  refine rs1.s2 fun h2 f2 rs2 => ?_
  have ne : p1 ≠ B := fun e => by subst e; omega
  have c2 := (c1.fr f1 u1 ne).fr f2 (by have := f1.1; omega) ne
  refine c2.atp.ldn rfl ?_
  refine Ig c2 fun h3 f3 => ?_
  refine hk h3 ((f0.trans f1).trans f2 |>.loc f3 l1) ?_
  rw [Bool.false_or, Bv] at rs2
  exact rs2.loc f3 (by omega) (by have := f1.1; have := f2.1; omega)
theorem Biv {i : Nat} {h : H} {k : KV} (hi : i ≤ L.length) (htx : ∀ x ∈ L, x.text.length ≤ 1000000 ∧ Sl x.sites ∧ x.kind ≠ 3) (he : Jk hE) (rs : Rz hE B vL i false h) (hk : ∀ h' v ok, FrO B h h' → Rz hE B vL (i + 1) (!ok) h' → (∀ hlt : i < L.length, Kb (tk L[i]) = if ok then some v else none) → (¬ i < L.length → ok = false) → k (vI v) h') : W1 (.func 184) [.ptr B 0] h k := by
  refine A7h (n := 3) Ca (Bg9 ?_)
  unfold Acm
  refine Dk ?_
  have hB := rs.2.2.1
  have c1 : Cel (h.new Dd) h.next 55 (vC (0#64, false)) := Ll
  have x1 : Exh h (h.new Dd) := .new
  have n1 : h.next.nat < (h.new Dd).next.nat := by rw [Bq]; omega
  have rs1 := rs.ext x1
  generalize h.new Dd = h1 at c1 x1 n1 rs1 ⊢
  have f1 : FrO B h h1 := .exh x1
  rw [Bz, Ag, Aj]
  refine rs1.l1 ?_
  rw [Ar, Bz, Ag, Aj]
  refine rs1.l0 ?_
  rw [hr.len, ilt]
  refine Bk (fun e => ?_) (fun e => ?_)
  · have e : i < L.length := of_decide_eq_true e
    obtain ⟨ht, hs, hk3⟩ := htx _ (List.getElem_mem e)
    have hi' : i < (L.map Gy.cells).length := by rw [List.length_map]; exact e
    rw [Bz, Ag, Aj]
    refine rs1.l0 ?_
    rw [Bz, Ag, Aj]
    refine rs1.l1 ?_
    rw [Ar, Be]
    refine ((hr.rd e).ext rs1.1).elem hi' fun q o hq _ hat => ?_
    rw [Ky e] at hat
    refine hat.ldn rfl (Dk ?_)
    have x2 : Exh h1 (h1.new A93) := .new
    have rs2 := rs1.ext x2
    have hat2 := hat.ext x2 hq
    refine rs2.l0 ?_
    rw [A4d hr.sl]
    refine rs2.l1 ?_
    rw [Ar]
    refine Ru avI ?_
    refine hat2.ldn rfl ?_
    refine Ru (Bcw hs) ?_
    refine A2p (e := 43) (zs := [(.int .i64 (Int.ofNat 0)), (.str 0 0), (.bool false), (.str 0 0), (.int .i64 (Int.ofNat 0)), (.int .i64 (Int.ofNat 0)), (.bool false), .Cd]) rfl rfl (by decide) fun h3 x3 n3 at3 => ?_
    replace c1 := c1.ext x3 n1
    replace rs1 := rs1.ext x3
    replace f1 := f1.trans (.exh x3)
    have u1 : h.next.nat < h3.next.nat := by have := x3.1; omega
    have he3 : Jk h3 := he.keep rs1.1.1 rs1.1.2
    have key : ∀ (v : V) (ok : Bool) (h4 : H), Exh h3 h4 → (Kb (tk L[i]) = if ok then some v else none) → Go.Den.stn 2 (.ptr h.next 0) (vI v) h4 fun h44 => (Adu W1 k 2).a1 (.ptr B 0) (.ptr h.next 0) ok h44 := fun v ok h4 x4 hp => by
      refine (c1.ext x4 u1).stn (cs' := vC v) rfl rfl (by decide) fun h5 f5 c5 => ?_
      have := x4.1
      refine Ajt hl hi ((rs1.ext x4).loc f5 hB (by omega)) ((f1.trans (.exh x4)).loc f5 (Nat.le_refl _)) c5 (Nat.le_refl _) (by have := f5.1; omega) hB fun h' f' rs' => ?_
      exact hk h' v ok f' rs' (fun _ => hp) (fun hn => absurd e hn)
    rw [Aj]
    refine at3.kd ?_
    rw [Ar, Ag8, Ag8]
    refine Bk (fun e2 => ?_) (fun e2 => ?_)
    · have e2 : L[i].kind = 2 := of_decide_eq_true e2
      have hpv : Kb (tk L[i]) = (Pe L[i].text).map fun p => (BitVec.ofNat 64 p.1, p.2) := if_pos (by unfold tk; simp only []; omega)
      rw [Aj]
      refine at3.tx ?_
      rw [Di]
      refine Aa5 (c64 L[i].text (by omega)) rfl (Aiv _) he3 ?_
      rw [hpv] at key
      cases hn : Pe L[i].text with
      | none =>
        rw [hn] at key
        exact key (0#64, false) false h3 .refl rfl
      | some p =>
        rw [hn] at key
        have hlt := Av0 hn
        have := key (BitVec.ofNat 64 p.1, p.2) true h3 .refl rfl
        unfold vI vC uI at this
        rw [BitVec.toNat_ofNat, Nat.mod_eq_of_lt hlt] at this
        exact this
    · have e2 : ¬ L[i].kind = 2 := of_decide_eq_false e2
      refine Bk (fun e3 => absurd (of_decide_eq_true e3 : L[i].kind = 3) hk3) (fun e3 => ?_)
      · have e3 : ¬ L[i].kind = 3 := of_decide_eq_false e3
        rw [Aj]
        refine at3.kd ?_
        rw [Ar, Ag8]
        refine Ajt hl hi rs1 f1 c1 (Nat.le_refl _) u1 hB fun h' f' rs' => ?_
        refine hk h' _ _ f' rs' (fun _ => ?_) (fun hn => absurd e hn)
        unfold Kb
        rw [if_neg (by unfold tk; simp only []; omega)]
        by_cases e1 : L[i].kind = 1
        · rw [if_pos (by unfold tk; simp only []; omega), decide_eq_true (show L[i].kind = ((1 : Nat) : Int) from e1)]; rfl
        · rw [if_neg (by unfold tk; simp only []; omega), decide_eq_false (show ¬ L[i].kind = ((1 : Nat) : Int) from e1)]; rfl
  · have e : ¬ i < L.length := of_decide_eq_false e
    refine Ajt hl hi rs1 f1 c1 (Nat.le_refl _) n1 hB fun h' f' rs' => ?_
    exact hk h' _ false f' rs' (fun hlt => absurd hlt e) (fun _ => rfl)
end
end Go.Den
