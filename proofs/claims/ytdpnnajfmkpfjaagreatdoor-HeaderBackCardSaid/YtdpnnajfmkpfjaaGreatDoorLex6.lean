/-
  A part of the proof: the lines of a text, as the document's own answer has them.
-/
import Derived.Test.YtdpnnajfmkpfjaaGreatDoorLex5
namespace Go.Den
open Go.RowKit
set_option maxRecDepth 100000
theorem exB44 (l c : Nat) (a b : Int) (h : H) : exBuild env (env.ty 44) [(0, .str l c), (1, .int .i64 a), (2, .int .i64 b)] h = some (.agg [.str l c, .int .i64 a, .int .i64 b], h) := by kernel_rfl
theorem exB47 (a : Int) (l c : Nat) (b : Bool) (x y z : AV) (h : H) : exBuild env (env.ty 47) [(0, .int .i64 a), (1, .str l c), (2, .bool b), (3, .agg [x, y, z])] h = some (.agg [.int .i64 a, .str l c, .bool b, x, y, z, .bool false, .nils], h) := by kernel_rfl
theorem exB60 (a : Int) (h : H) : exBuild env (env.ty 60) [(1, .int .i64 a)] h = some (.agg [.nils, .int .i64 a, .int .i64 (.ofNat 0), .bool false], h) := by kernel_rfl
noncomputable def Z47 : Tm := tlist [.int .i64 (.ofNat 0), .str 0 0, .bool false, .str 0 0, .int .i64 (.ofNat 0), .int .i64 (.ofNat 0), .bool false, .nils] 0 .e
theorem bld47 (a b c d e f g i : AV) (h : H) : withElem env 27 (fun t ei => exBuildSlice 1 [(0, .agg [a, b, c, d, e, f, g, i])] h t ei) = some (.slice h.next 0 1 8 true, h.new (.row (tlist [a, b, c, d, e, f, g, i] 0 Z47) 8 0 47 true)) := by kernel_rfl
theorem app27 (x y : AV) (h : H) : builtinA env .append [27, 27] [x, y] h = exAppend (some false) x y h 47 (eiOf 47) := by kernel_rfl
theorem sz47 : (eiOf 47).size = 8 := by kernel_rfl
theorem fits47 {n : Nat} (hn : n ≤ 1099511627776) : fitsMem (eiOf 47) n = true := fits_n (by kernel_rfl) (by kernel_rfl) hn
noncomputable def Z60 : Tm := tlist [.nils, .int .i64 (.ofNat 0), .int .i64 (.ofNat 0), .bool false] 0 .e
theorem bld60 (a b c d : AV) (h : H) : withElem env 55 (fun t ei => exBuildSlice 1 [(0, .agg [a, b, c, d])] h t ei) = some (.slice h.next 0 1 4 true, h.new (.row (tlist [a, b, c, d] 0 Z60) 4 0 60 true)) := by kernel_rfl
theorem app55 (x y : AV) (h : H) : builtinA env .append [55, 55] [x, y] h = exAppend (some false) x y h 60 (eiOf 60) := by kernel_rfl
theorem sz60 : (eiOf 60).size = 4 := by kernel_rfl
theorem fits60 {n : Nat} (hn : n ≤ 1099511627776) : fitsMem (eiOf 60) n = true := fits_n (by kernel_rfl) (by kernel_rfl) hn
theorem cut66 {q : P} {o n lo hi : Nat} {b : Bool} {h : H} (h1 : lo ≤ hi) (h2 : hi ≤ n) : slice3 env h 66 (.slice q o n 3 b) (some (some lo)) (some (some hi)) none = some (.slice q (o + lo * 3) (hi - lo) 3 (band b (Nat.beq hi n)), h) := by
  have e : slice3 env h 66 (.slice q o n 3 b) (some (some lo)) (some (some hi)) none = withH h (Bool.rec none (some (.slice q (Nat.add o (Nat.mul lo 3)) (Nat.sub hi lo) 3 (band b (Nat.beq hi n)))) (band (band (Nat.ble lo hi) (Nat.ble hi n)) true)) := by kernel_rfl
  rw [e, Nat.ble_eq_true_of_le h1, Nat.ble_eq_true_of_le h2]; rfl
theorem cut27 {q : P} {o n lo hi : Nat} {b : Bool} {h : H} (h1 : lo ≤ hi) (h2 : hi ≤ n) : slice3 env h 27 (.slice q o n 8 b) (some (some lo)) (some (some hi)) none = some (.slice q (o + lo * 8) (hi - lo) 8 (band b (Nat.beq hi n)), h) := by
  have e : slice3 env h 27 (.slice q o n 8 b) (some (some lo)) (some (some hi)) none = withH h (Bool.rec none (some (.slice q (Nat.add o (Nat.mul lo 8)) (Nat.sub hi lo) 8 (band b (Nat.beq hi n)))) (band (band (Nat.ble lo hi) (Nat.ble hi n)) true)) := by kernel_rfl
  rw [e, Nat.ble_eq_true_of_le h1, Nat.ble_eq_true_of_le h2]; rfl
theorem RowL.cut {sz o lo hi : Nat} {t : Tm} {L : List (List AV)} (hr : RowL sz o t L) : RowL sz (o + lo * sz) t ((L.drop lo).take (hi - lo)) := by
  intro i hi'
  have h1 : lo + i < L.length := by rw [List.length_take, List.length_drop] at hi'; omega
  rw [List.getElem_take, List.getElem_drop]
  refine ⟨(hr (lo + i) h1).1, fun j hj => ?_⟩
  have := (hr (lo + i) h1).2 j hj
  rw [← this]
  congr 1
  rw [Nat.add_mul]; omega
theorem Rd.cut3 {h : H} {v : AV} {L : List (List AV)} (hr : Rd 3 h v L) {lo hi : Nat} (h1 : lo ≤ hi) (h2 : hi ≤ L.length) {k : KV} (hk : ∀ v', Rd 3 h v' ((L.drop lo).take (hi - lo)) → k v' h) : oK (slice3 env h 66 v (some (some lo)) (some (some hi)) none) k := by
  obtain ⟨q, o, t, m, z, e, w, b, rfl, a1, a2, a3, a4⟩ := hr
  rw [cut66 h1 h2, oK_some]
  have hl : ((L.drop lo).take (hi - lo)).length = hi - lo := by rw [List.length_take, List.length_drop]; omega
  exact hk _ ⟨q, _, t, m, z, e, w, _, by rw [hl], a1, a2, by rw [hl]; have : hi * 3 ≤ L.length * 3 := Nat.mul_le_mul_right _ h2; omega, a4.cut⟩
theorem Rd.cut8 {h : H} {v : AV} {L : List (List AV)} (hr : Rd 8 h v L) {lo hi : Nat} (h1 : lo ≤ hi) (h2 : hi ≤ L.length) {k : KV} (hk : ∀ v', Rd 8 h v' ((L.drop lo).take (hi - lo)) → k v' h) : oK (slice3 env h 27 v (some (some lo)) (some (some hi)) none) k := by
  obtain ⟨q, o, t, m, z, e, w, b, rfl, a1, a2, a3, a4⟩ := hr
  rw [cut27 h1 h2, oK_some]
  have hl : ((L.drop lo).take (hi - lo)).length = hi - lo := by rw [List.length_take, List.length_drop]; omega
  exact hk _ ⟨q, _, t, m, z, e, w, _, by rw [hl], a1, a2, by rw [hl]; have : hi * 8 ≤ L.length * 8 := Nat.mul_le_mul_right _ h2; omega, a4.cut⟩
theorem Rs.cut {h : H} {v : AV} {B : List UInt8} (hr : Rs h v B) {lo hi : Nat} (h1 : lo ≤ hi) (h2 : hi ≤ B.length) {k : KV} (hk : ∀ v', Rs h v' ((B.drop lo).take (hi - lo)) → k v' h) : oK (slice3 env h 66 v (some (some lo)) (some (some hi)) none) k := by
  obtain ⟨L, r, hL⟩ := hr
  refine r.cut3 h1 (by rw [hL.1]; exact h2) fun v' r' => hk v' ⟨_, r', ?_, fun i hi1 hi2 => ?_⟩
  · rw [List.length_take, List.length_take, List.length_drop, List.length_drop, hL.1]
  · have h3 : lo + i < B.length := by rw [List.length_take, List.length_drop] at hi1; omega
    have h4 : lo + i < L.length := by rw [hL.1]; exact h3
    obtain ⟨f, t, a, b, c⟩ := hL.2 (lo + i) h3 h4
    refine ⟨f, t, a, b, ?_⟩
    rw [List.getElem_take, List.getElem_take, List.getElem_drop, List.getElem_drop]; exact c
theorem eqC_r {v : AV} {A : Prop} (h : avEq 4 v v = true) (hA : A) : eqC v v A := by
  show Bool.rec bad0 A (avEq 4 v v)
  rw [h]; exact hA
theorem avI {n : Nat} {k : IntKind} {a : Int} : avEq (n + 1) (.int k a) (.int k a) = true := by
  show band (ikEq k k) (ibeq a a) = true
  rw [ibeq_eq, beq_self_eq_true]; cases k <;> rfl
theorem avS {n l c : Nat} : avEq (n + 1) (.str l c) (.str l c) = true := by
  show band (Nat.beq l l) (Nat.beq c c) = true
  rw [Nat.beq_refl, Nat.beq_refl]; rfl
theorem avSl {n : Nat} {a : P} {i m z : Nat} {t : Bool} : avEq (n + 1) (.slice a i m z t) (.slice a i m z t) = true := by
  show band (band (P.beq a a) (Nat.beq i i)) (band (band (Nat.beq m m) (Nat.beq z z)) (beqB t t)) = true
  rw [P.beq_refl, Nat.beq_refl, Nat.beq_refl, Nat.beq_refl]; cases t <;> rfl
theorem avBuf {e : TypeId} {sz lo : Nat} {h : H} {v : AV} {L : List (List AV)} (hb : BufN e sz lo h v L) : avEq 4 v v = true := by
  rcases hb with ⟨rfl, _⟩ | ⟨_, _, _, _, _, rfl, _⟩
  · rfl
  · exact avSl
theorem avA3 {x y z : AV} (hx : avEq 3 x x = true) (hy : avEq 3 y y = true) (hz : avEq 3 z z = true) : avEq 4 (.agg [x, y, z]) (.agg [x, y, z]) = true := by
  have e : avEq 4 (.agg [x, y, z]) (.agg [x, y, z]) = allEq (avEq 3) [x, y, z] [x, y, z] := rfl
  rw [e]
  simp only [allEq, hx, hy, hz]
  rfl
structure Tok where
  kind : Nat
  text : List UInt8
  space : Bool
  f : Nat
  t : Nat
noncomputable def Tok.cells (x : Tok) : List AV := [.int .i64 (.ofNat x.kind), S x.text, .bool x.space, .str 1 102, .int .i64 (.ofNat x.f), .int .i64 (.ofNat x.t), .bool false, .nils]
/-- where the lines' loop stands: what was there is left; the line that is read is in its row -/
def LS (h2 h : H) (T : List Tok) : Prop := Exh h2 h ∧ h2.next.nat < h.next.nat ∧ ∃ t, h.at h2.next = .row t 4 0 60 true ∧ BufN 47 8 h2.next.nat h (tget t 0) (T.map Tok.cells)
theorem ln_tok {h2 h : H} {vr : AV} {B : List UInt8} {T : List Tok} {i e kd l1 c1 n : Nat} {b : Bool} {k : KV} (hB : Rs h2 vr B) (hl : B.length ≤ 1000000) (hT : T.length ≤ 1000000) (hs : LS h2 h T) (hi : i < e) (he : e ≤ B.length)
    (hk : ∀ f t h', LS h2 h' (T ++ [⟨kd, (B.drop i).take (e - i), b, f, t⟩]) → (r17 W1 k n).a1 1 102 l1 c1 vr .nils .nils (.ptr h2.next 0) false (Int.ofNat e) h') :
    (r17 W1 k (n + 2)).a5 1 102 l1 c1 vr .nils .nils (.ptr h2.next 0) b (Int.ofNat i) (Int.ofNat kd) (Int.ofNat e) false h := by
  obtain ⟨x0, hn, t, ht, hb⟩ := hs
  have hr := hB.ext x0
  obtain ⟨L, r, hL⟩ := hr
  have i1 : i < L.length := by rw [hL.1]; omega
  have i2 : e - 1 < L.length := by rw [hL.1]; omega
  obtain ⟨f1, t1, _, _, hc1⟩ := hL.2 i (by omega) i1
  obtain ⟨f2, t2, _, _, hc2⟩ := hL.2 (e - 1) (by omega) i2
  refine j17_5 ?_
  unfold s17_5
  rw [natI_eq]
  refine r.elem i1 fun q1 o1 hq1 _ a1 => ?_
  rw [hc1] at a1
  rw [fAddr_i]
  refine a1.ld1 (j := 1) (by show 1 < 3; decide) ?_
  simp only [rn, List.getElem_cons_succ, List.getElem_cons_zero]
  rw [asI_k, isubN (by omega), wrapN (by omega), fI_eq, natI_eq]
  refine r.elem i2 fun q2 o2 hq2 _ a2 => ?_
  rw [hc2] at a2
  rw [fAddr_i]
  refine a2.ld1 (j := 2) (by show 2 < 3; decide) ?_
  simp only [rn, List.getElem_cons_succ, List.getElem_cons_zero]
  rw [asI_k, exB44, oK_some]
  refine newK_i ?_
  have a1' := a1.frame (h' := h.new ob44) (at_new_o hq1)
  have a2' := a2.frame (h' := h.new ob44) (at_new_o hq2)
  refine a1'.ld1 (j := 1) (by show 1 < 3; decide) ?_
  simp only [rn, List.getElem_cons_succ, List.getElem_cons_zero]
  rw [asI_k]
  refine eqC_r avI ?_
  refine a2'.ld1 (j := 2) (by show 2 < 3; decide) ?_
  simp only [rn, List.getElem_cons_succ, List.getElem_cons_zero]
  rw [asI_k]
  refine eqC_r avI ?_
  have hs44 : (h.new ob44).at h.next = .row (tlist [(.str 0 0), (.int .i64 (Int.ofNat 0)), (.int .i64 (Int.ofNat 0))] 0 .e) 3 0 44 true := by rw [at_new_same]; rfl
  refine stn_i (c := 3) hs44 (Nat.le_refl _) rfl (by decide) (by decide) ?_
  -- the heap from here on
  generalize hh3 : (h.new ob44).put h.next (.row (tlist [.str 1 102, .int .i64 (Int.ofNat f1), .int .i64 (Int.ofNat t2)] 0 (tlist [(.str 0 0), (.int .i64 (Int.ofNat 0)), (.int .i64 (Int.ofNat 0))] 0 .e)) 3 0 44 true) = h3
  have x3 : Exh h h3 := by
    subst hh3
    refine ⟨by rw [next_put, next_new]; omega, fun c hc => ?_⟩
    rw [at_put_o (fun e => by subst e; exact absurd hc (Nat.lt_irrefl _)), at_new_o hc]
  have n3 : h3.next.nat = h.next.nat + 1 := by subst hh3; rw [next_put, next_new]
  have s3 : AtP h3 h.next 0 [.str 1 102, .int .i64 (Int.ofNat f1), .int .i64 (Int.ofNat t2)] := by
    refine ⟨_, 3, 0, 44, true, by subst hh3; exact at_put_same _ _ _, by show 0 + 3 ≤ 3; decide, fun j hj => ?_⟩
    rw [tget_tlist, if_pos (by constructor; omega; simpa using hj), List.getD_eq_getElem?_getD, show 0 + j - 0 = j by omega, List.getElem?_eq_getElem hj]; rfl
  have b3 := hb.ext x3
  have ht3 : h3.at h2.next = .row t 4 0 60 true := by rw [x3.2 _ hn]; exact ht
  rw [fAddr_0]
  refine ld1_i ht3 (by decide) ?_
  refine Rs.cut ((hB.ext x0).ext x3) (Nat.le_of_lt hi) he fun v4 r4 => ?_
  refine s3.ldn rfl ?_
  refine c29 (by rw [List.length_take, List.length_drop]; omega) r4 fun h5 x5 => ?_
  rw [asS_s]
  have ht5 : h5.at h2.next = .row t 4 0 60 true := by rw [x5.2 _ (by omega)]; exact ht3
  have b5 := b3.ext x5
  refine ld1_i ht5 (by decide) ?_
  refine eqC_r (avBuf b5) ?_
  have s5 := s3.frame (h' := h5) (x5.2 _ (by omega))
  refine s5.ldn rfl ?_
  refine eqC_r (avA3 avS avI avI) ?_
  rw [exB47, oK_some, bld47, oK_some]
  have x6 : Exh h5 (h5.new (.row (tlist [.int .i64 (Int.ofNat kd), .str ((B.drop i).take (e - i)).length (enc ((B.drop i).take (e - i))), .bool b, .str 1 102, .int .i64 (Int.ofNat f1), .int .i64 (Int.ofNat t2), .bool false, .nils] 0 Z47) 8 0 47 true)) := Exh.new
  have n5 : h.next.nat < h5.next.nat := by have := x5.1; omega
  refine ld1_i (show _ = Ob.row t 4 0 60 true by rw [x6.2 _ (by omega)]; exact ht5) (by decide) ?_
  refine eqC_r (avBuf b5) ?_
  rw [app27]
  refine app_new b5 rfl sz47 (fits47 (by rw [List.length_map]; omega)) (by omega) fun v7 h7 b7 k7 => ?_
  have ht7 : h7.at h2.next = .row t 4 0 60 true := by rw [k7.2 _ (by omega) (.inr ⟨_, _, _, _, _, ht5, by decide⟩)]; exact ht5
  rw [fAddr_0]
  refine st1_i ht7 (Nat.zero_le _) (by decide) b7.one ?_
  refine cnd_f rfl ?_
  refine j17_2 ?_
  unfold s17_2
  refine hk f1 t2 _ ⟨?_, ?_, _, at_put_same _ _ _, ?_⟩
  · have x7 : Exh h2 h7 := (x0.trans (x3.trans x5)).kp (Nat.le_refl _) k7
    refine ⟨x7.1, fun c hc => ?_⟩
    rw [at_put_o fun e' => by subst e'; exact absurd hc (Nat.lt_irrefl _)]
    exact x7.2 c hc
  · rw [next_put]; have := k7.1; omega
  · rw [tget_tlist, if_pos (by constructor <;> simp)]
    rw [List.map_append]
    show BufN 47 8 h2.next.nat _ v7 (T.map Tok.cells ++ [Tok.cells ⟨kd, (B.drop i).take (e - i), b, f1, t2⟩])
    refine BufN.frame b7 (Nat.le_refl _) fun c hc _ tt m z w ha => at_put_o fun e' => ?_
    subst e'
    rw [ht7] at ha; cases ha
end Go.Den
