/-
 A part of the proof.
-/
import Derived.Test.YtcnmehbkpaoolaaGreatDoorLex5
noncomputable section
namespace Go.Den
open Go.RowKit
set_option maxRecDepth 100000
theorem Bdz (l c : Nat) (a b : Int) (h : H) : Bm env (env.ty 38) [(0, .str l c), (1, .int .i64 a), (2, .int .i64 b)] h = some (.agg [.str l c, .int .i64 a, .int .i64 b], h) := by kernel_rfl
theorem Bdy (a : Int) (l c : Nat) (b : Bool) (x y z : AV) (h : H) : Bm env (env.ty 43) [(0, .int .i64 a), (1, .str l c), (2, .bool b), (3, .agg [x, y, z])] h = some (.agg [.int .i64 a, .str l c, .bool b, x, y, z, .bool false, .Ad], h) := by kernel_rfl
theorem Bdw (a : Int) (h : H) : Bm env (env.ty 114) [(1, .int .i64 a)] h = some (.agg [.Ad, .int .i64 a, .int .i64 (.ofNat 0), .bool false], h) := by kernel_rfl
def Z47 : Tm := Ah [.int .i64 (.ofNat 0), .str 0 0, .bool false, .str 0 0, .int .i64 (.ofNat 0), .int .i64 (.ofNat 0), .bool false, .Ad] 0 .e
theorem Bgf (a b c d e f g i : AV) (h : H) : An env 22 (fun t ei => Ak 1 [(0, .agg [a, b, c, d, e, f, g, i])] h t ei) = some (.slice h.next 0 1 8 true, h.new (.row (Ah [a, b, c, d, e, f, g, i] 0 Z47) 8 0 43 true)) := by kernel_rfl
theorem Bgu (x y : AV) (h : H) : Aq env .append [22, 22] [x, y] h = Dc (some false) x y h 43 (Ox 43) := by kernel_rfl
theorem Bir : (Ox 43).size = 8 := by kernel_rfl
theorem A49 {n : Nat} (hn : n ≤ 1099511627776) : Cf (Ox 43) n = true := Wi (by kernel_rfl) (by kernel_rfl) hn
def Z60 : Tm := Ah [.Ad, .int .i64 (.ofNat 0), .int .i64 (.ofNat 0), .bool false] 0 .e
theorem Bgd (a b c d : AV) (h : H) : An env 110 (fun t ei => Ak 1 [(0, .agg [a, b, c, d])] h t ei) = some (.slice h.next 0 1 4 true, h.new (.row (Ah [a, b, c, d] 0 Z60) 4 0 114 true)) := by kernel_rfl
theorem Bgt (x y : AV) (h : H) : Aq env .append [110, 110] [x, y] h = Dc (some false) x y h 114 (Ox 114) := by kernel_rfl
theorem Bip : (Ox 114).size = 4 := by kernel_rfl
theorem A47 {n : Nat} (hn : n ≤ 1099511627776) : Cf (Ox 114) n = true := Wi (by kernel_rfl) (by kernel_rfl) hn
theorem Bfr {q : P} {o n lo hi : Nat} {b : Bool} {h : H} (h1 : lo ≤ hi) (h2 : hi ≤ n) : slice3 env h 171 (.slice q o n 3 b) (some (some lo)) (some (some hi)) none = some (.slice q (o + lo * 3) (hi - lo) 3 (Ai b (Nat.beq hi n)), h) := by
 have e : slice3 env h 171 (.slice q o n 3 b) (some (some lo)) (some (some hi)) none = Ex h (Bool.rec none (some (.slice q (Nat.add o (Nat.mul lo 3)) (Nat.sub hi lo) 3 (Ai b (Nat.beq hi n)))) (Ai (Ai (Nat.ble lo hi) (Nat.ble hi n)) true)) := by kernel_rfl
 rw [e, Nat.ble_eq_true_of_le h1, Nat.ble_eq_true_of_le h2]; rfl
theorem Pa.cut {sz o lo hi : Nat} {t : Tm} {L : List (List AV)} (hr : Pa sz o t L) : Pa sz (o + lo * sz) t ((L.drop lo).take (hi - lo)) := by
 intro i hi'
 have h1 : lo + i < L.length := by rw [List.length_take, List.length_drop] at hi'; omega
 rw [List.getElem_take, List.getElem_drop]
 refine ⟨(hr (lo + i) h1).1, fun j hj => ?_⟩
 have := (hr (lo + i) h1).2 j hj
 rw [← this]
 congr 1
 rw [Nat.add_mul]; omega
theorem Rd.Bla {h : H} {v : AV} {L : List (List AV)} (hr : Rd 3 h v L) {lo hi : Nat} (h1 : lo ≤ hi) (h2 : hi ≤ L.length) {k : KV} (hk : ∀ v', Rd 3 h v' ((L.drop lo).take (hi - lo)) → k v' h) : oK (slice3 env h 171 v (some (some lo)) (some (some hi)) none) k := by
 obtain ⟨q, o, t, m, z, e, w, b, rfl, a1, a2, a3, a4⟩ := hr
 rw [Bfr h1 h2, Ae]
 have hl : ((L.drop lo).take (hi - lo)).length = hi - lo := by rw [List.length_take, List.length_drop]; omega
 exact hk _ ⟨q, _, t, m, z, e, w, _, by rw [hl], a1, a2, by rw [hl]; have : hi * 3 ≤ L.length * 3 := Nat.mul_le_mul_right _ h2; omega, a4.cut⟩
theorem Rs.cut {h : H} {v : AV} {B : List UInt8} (hr : Rs h v B) {lo hi : Nat} (h1 : lo ≤ hi) (h2 : hi ≤ B.length) {k : KV} (hk : ∀ v', Rs h v' ((B.drop lo).take (hi - lo)) → k v' h) : oK (slice3 env h 171 v (some (some lo)) (some (some hi)) none) k := by
 obtain ⟨L, r, hL⟩ := hr
 refine r.Bla h1 (by rw [hL.1]; exact h2) fun v' r' => hk v' ⟨_, r', ?_, fun i hi1 hi2 => ?_⟩
 · rw [List.length_take, List.length_take, List.length_drop, List.length_drop, hL.1]
 · have h3 : lo + i < B.length := by rw [List.length_take, List.length_drop] at hi1; omega
   have h4 : lo + i < L.length := by rw [hL.1]; exact h3
   obtain ⟨f, t, a, b, c⟩ := hL.2 (lo + i) h3 h4
   refine ⟨f, t, a, b, ?_⟩
   rw [List.getElem_take, List.getElem_take, List.getElem_drop, List.getElem_drop]; exact c
theorem Ai6 {v : AV} {A : Prop} (h : Oy 4 v v = true) (hA : A) : eqC v v A := by
 show Bool.rec Aj A (Oy 4 v v)
 rw [h]; exact hA
theorem avI {n : Nat} {k : IntKind} {a : Int} : Oy (n + 1) (.int k a) (.int k a) = true := by
 show Ai (Aip k k) (Ba a a) = true
 rw [Fi, beq_self_eq_true]; cases k <;> rfl
theorem avS {n l c : Nat} : Oy (n + 1) (.str l c) (.str l c) = true := by
 show Ai (Nat.beq l l) (Nat.beq c c) = true
 rw [Nat.beq_refl, Nat.beq_refl]; rfl
theorem Bl6 {n : Nat} {a : P} {i m z : Nat} {t : Bool} : Oy (n + 1) (.slice a i m z t) (.slice a i m z t) = true := by
 show Ai (Ai (P.beq a a) (Nat.beq i i)) (Ai (Ai (Nat.beq m m) (Nat.beq z z)) (Abt t t)) = true
 rw [P.beq_refl, Nat.beq_refl, Nat.beq_refl, Nat.beq_refl]; cases t <;> rfl
theorem A1l {e : TypeId} {sz lo : Nat} {h : H} {v : AV} {L : List (List AV)} (hb : Cv e sz lo h v L) : Oy 4 v v = true := by
 rcases hb with ⟨rfl, _⟩ | ⟨_, _, _, _, _, rfl, _⟩
 · rfl
 · exact Bl6
theorem Bl7 {x y z : AV} (hx : Oy 3 x x = true) (hy : Oy 3 y y = true) (hz : Oy 3 z z = true) : Oy 4 (.agg [x, y, z]) (.agg [x, y, z]) = true := by
 have e : Oy 4 (.agg [x, y, z]) (.agg [x, y, z]) = allEq (Oy 3) [x, y, z] [x, y, z] := rfl
 rw [e]
 simp only [allEq, hx, hy, hz]
 rfl
structure Tok where
 kind : Nat
 text : List UInt8
 space : Bool
 f : Nat
 t : Nat
def Tok.cells (x : Tok) : List AV := [.int .i64 (.ofNat x.kind), S x.text, .bool x.space, .str 1 102, .int .i64 (.ofNat x.f), .int .i64 (.ofNat x.t), .bool false, .Ad]
def LS (h2 h : H) (T : List Tok) : Prop := Exh h2 h ∧ h2.next.nat < h.next.nat ∧ ∃ t, h.at h2.next = .row t 4 0 114 true ∧ Cv 43 8 h2.next.nat h (Az t 0) (T.map Tok.cells)
theorem A3u {h2 h : H} {vr : AV} {B : List UInt8} {T : List Tok} {i e kd l1 c1 n : Nat} {b : Bool} {k : KV} (hB : Rs h2 vr B) (hl : B.length ≤ 1000000) (hT : T.length ≤ 1000000) (hs : LS h2 h T) (hi : i < e) (he : e ≤ B.length)
 (hk : ∀ f t h', LS h2 h' (T ++ [⟨kd, (B.drop i).take (e - i), b, f, t⟩]) → (r46 W1 k n).a1 1 102 l1 c1 vr .Ad .Ad (.ptr h2.next 0) false (Int.ofNat e) h') :
 (r46 W1 k (n + 2)).a5 1 102 l1 c1 vr .Ad .Ad (.ptr h2.next 0) b (Int.ofNat i) (Int.ofNat kd) (Int.ofNat e) false h := by
 obtain ⟨x0, hn, t, ht, hb⟩ := hs
 have hr := hB.ext x0
 obtain ⟨L, r, hL⟩ := hr
 have i1 : i < L.length := by rw [hL.1]; omega
 have i2 : e - 1 < L.length := by rw [hL.1]; omega
 obtain ⟨f1, t1, _, _, hc1⟩ := hL.2 i (by omega) i1
 obtain ⟨f2, t2, _, _, hc2⟩ := hL.2 (e - 1) (by omega) i2
 refine Bde ?_
 unfold Am1
 rw [As]
 refine r.elem i1 fun q1 o1 hq1 _ a1 => ?_
 rw [hc1] at a1
 rw [Ay]
 refine a1.ld1 (j := 1) (by show 1 < 3; decide) ?_
 simp only [rn, List.getElem_cons_succ, List.getElem_cons_zero]
 rw [Au, Acn (by omega), Cm (by omega), Ar, As]
 refine r.elem i2 fun q2 o2 hq2 _ a2 => ?_
 rw [hc2] at a2
 rw [Ay]
 refine a2.ld1 (j := 2) (by show 2 < 3; decide) ?_
 simp only [rn, List.getElem_cons_succ, List.getElem_cons_zero]
 rw [Au, Bdz, Ae]
 refine Ec ?_
 have a1' := a1.frame (h' := h.new As7) (Df hq1)
 have a2' := a2.frame (h' := h.new As7) (Df hq2)
 refine a1'.ld1 (j := 1) (by show 1 < 3; decide) ?_
 simp only [rn, List.getElem_cons_succ, List.getElem_cons_zero]
 rw [Au]
 refine Ai6 avI ?_
 refine a2'.ld1 (j := 2) (by show 2 < 3; decide) ?_
 simp only [rn, List.getElem_cons_succ, List.getElem_cons_zero]
 rw [Au]
 refine Ai6 avI ?_
 have hs44 : (h.new As7).at h.next = .row (Ah [(.str 0 0), (.int .i64 (Int.ofNat 0)), (.int .i64 (Int.ofNat 0))] 0 .e) 3 0 38 true := by rw [Ax]; rfl
 refine Tq (c := 3) hs44 (Nat.le_refl _) rfl (by decide) (by decide) ?_
 -- the heap from here on
 generalize hh3 : (h.new As7).put h.next (.row (Ah [.str 1 102, .int .i64 (Int.ofNat f1), .int .i64 (Int.ofNat t2)] 0 (Ah [(.str 0 0), (.int .i64 (Int.ofNat 0)), (.int .i64 (Int.ofNat 0))] 0 .e)) 3 0 38 true) = h3
 have x3 : Exh h h3 := by
  subst hh3
  refine ⟨by rw [Da, Bg]; omega, fun c hc => ?_⟩
  rw [Br (fun e => by subst e; exact absurd hc (Nat.lt_irrefl _)), Df hc]
 have n3 : h3.next.nat = h.next.nat + 1 := by subst hh3; rw [Da, Bg]
 have s3 : AtP h3 h.next 0 [.str 1 102, .int .i64 (Int.ofNat f1), .int .i64 (Int.ofNat t2)] := by
  refine ⟨_, 3, 0, 38, true, by subst hh3; exact Bn _ _ _, by show 0 + 3 ≤ 3; decide, fun j hj => ?_⟩
  rw [Ao, if_pos (by constructor; omega; simpa using hj), List.getD_eq_getElem?_getD, show 0 + j - 0 = j by omega, List.getElem?_eq_getElem hj]; rfl
 have b3 := hb.ext x3
 have ht3 : h3.at h2.next = .row t 4 0 114 true := by rw [x3.2 _ hn]; exact ht
 rw [Hj]
 refine Ct ht3 (by decide) ?_
 refine Rs.cut ((hB.ext x0).ext x3) (Nat.le_of_lt hi) he fun v4 r4 => ?_
 refine s3.ldn rfl ?_
 refine c81 (by rw [List.length_take, List.length_drop]; omega) r4 fun h5 x5 => ?_
 rw [Ce]
 have ht5 : h5.at h2.next = .row t 4 0 114 true := by rw [x5.2 _ (by omega)]; exact ht3
 have b5 := b3.ext x5
 refine Ct ht5 (by decide) ?_
 refine Ai6 (A1l b5) ?_
 have s5 := s3.frame (h' := h5) (x5.2 _ (by omega))
 refine s5.ldn rfl ?_
 refine Ai6 (Bl7 avS avI avI) ?_
 rw [Bdy, Ae, Bgf, Ae]
 have x6 : Exh h5 (h5.new (.row (Ah [.int .i64 (Int.ofNat kd), .str ((B.drop i).take (e - i)).length (enc ((B.drop i).take (e - i))), .bool b, .str 1 102, .int .i64 (Int.ofNat f1), .int .i64 (Int.ofNat t2), .bool false, .Ad] 0 Z47) 8 0 43 true)) := Exh.new
 have n5 : h.next.nat < h5.next.nat := by have := x5.1; omega
 refine Ct (show _ = Ob.row t 4 0 114 true by rw [x6.2 _ (by omega)]; exact ht5) (by decide) ?_
 refine Ai6 (A1l b5) ?_
 rw [Bgu]
 refine Ags b5 rfl Bir (A49 (by rw [List.length_map]; omega)) (by omega) fun v7 h7 b7 k7 => ?_
 have ht7 : h7.at h2.next = .row t 4 0 114 true := by rw [k7.2 _ (by omega) (.inr ⟨_, _, _, _, _, ht5, by decide⟩)]; exact ht5
 rw [Hj]
 refine Pf ht7 (Nat.zero_le _) (by decide) b7.one ?_
 refine Bl rfl ?_
 refine Bdg ?_
 unfold Am3
 refine hk f1 t2 _ ⟨?_, ?_, _, Bn _ _ _, ?_⟩
 · have x7 : Exh h2 h7 := (x0.trans (x3.trans x5)).kp (Nat.le_refl _) k7
   refine ⟨x7.1, fun c hc => ?_⟩
   rw [Br fun e' => by subst e'; exact absurd hc (Nat.lt_irrefl _)]
   exact x7.2 c hc
 · rw [Da]; have := k7.1; omega
 · rw [Ao, if_pos (by constructor <;> simp)]
   rw [List.map_append]
   show Cv 43 8 h2.next.nat _ v7 (T.map Tok.cells ++ [Tok.cells ⟨kd, (B.drop i).take (e - i), b, f1, t2⟩])
   refine Cv.frame b7 (Nat.le_refl _) fun c hc _ tt m z w ha => Br fun e' => ?_
   subst e'
   rw [ht7] at ha; cases ha
end Go.Den
