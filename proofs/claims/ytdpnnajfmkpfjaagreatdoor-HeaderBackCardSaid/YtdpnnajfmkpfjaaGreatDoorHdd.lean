/-
  A part of the proof: what HeaderBack asks, step by step.
-/
import Derived.Test.YtdpnnajfmkpfjaaGreatDoorHdc
namespace Go.Den
open Go.RowKit
set_option maxRecDepth 100000
theorem ofN {s : List UInt8} (hs : Nm s) {h : H} {k : KV} (hk : ∀ h', Exh h h' → k (.tuple [.agg [S s, .bool false], .bool true]) h') : W1 (.func 7) [S (tA s)] h fun v h' => W1 (.func 6) [v] h' k := by
  have hls := hs.le
  have hlt : (tA s).length = s.length + 2 := by simp [tA]
  refine c7 (by simp [tA]) (fun x hx => ?_) (by rw [hlt]; omega) (lexN hs) (fun T hQ => by obtain ⟨_, _, _, rfl, _⟩ := hQ; simp) fun h' v T hQ hT x' r => ?_
  · simp only [tA, List.mem_cons, List.mem_append, List.not_mem_nil, or_false] at hx
    rcases hx with rfl | hx | rfl
    · decide
    · exact ⟨(hs.ok x hx).1, (hs.ok x hx).2.1, (hs.ok x hx).2.2.1⟩
    · decide
  · obtain ⟨t0, T', tn, rfl, k1, k2, k3, k4, k5⟩ := hQ
    subst k5
    rw [hlt] at hT
    exact c6_angle r k1 k2 k3 k4 hs.ne (by omega) (by simp at hT; omega) fun h'' x'' => hk h'' (x'.trans x'')
theorem ofX {s : List UInt8} (hs : Nm s) {h : H} {k : KV} (hk : ∀ h', Exh h h' → k (.tuple [.agg [S [], .bool false], .bool false]) h') : W1 (.func 7) [S (tX s)] h fun v h' => W1 (.func 6) [v] h' k := by
  have hls := hs.le
  have hlt : (tX s).length = s.length + 4 := by simp [tX]
  refine c7 (by simp [tX]) (fun x hx => ?_) (by rw [hlt]; omega) (lexX hs) (fun T hQ => by obtain ⟨_, _, _, rfl, _⟩ := hQ; simp) fun h' v T hQ hT x' r => ?_
  · simp only [tX, List.mem_cons, List.mem_append, List.not_mem_nil, or_false] at hx
    rcases hx with rfl | hx | rfl | rfl | rfl
    · decide
    · exact ⟨(hs.ok x hx).1, (hs.ok x hx).2.1, (hs.ok x hx).2.2.1⟩
    · decide
    · decide
    · decide
  · obtain ⟨t0, T', tn, rfl, k1⟩ := hQ
    rw [hlt] at hT
    exact c6_no2 r k1 (by simp at hT; omega) fun h'' x'' => hk h'' (x'.trans x'')
theorem ofL {s : List UInt8} (hs : Nm s) {h : H} {k : KV} (hk : ∀ h', Exh h h' → k (.tuple [.agg [S [], .bool false], .bool false]) h') : W1 (.func 7) [S (tL s)] h fun v h' => W1 (.func 6) [v] h' k := by
  have hls := hs.le
  have hlt : (tL s).length = s.length + 3 := by simp [tL]
  refine c7 (by simp [tL]) (fun x hx => ?_) (by rw [hlt]; omega) (lexL hs.ok) (fun T hQ => by obtain ⟨_, rfl, _⟩ := hQ; simp) fun h' v T hQ hT x' r => ?_
  · simp only [tL, List.mem_cons, List.mem_append, List.not_mem_nil, or_false] at hx
    rcases hx with rfl | rfl | hx | rfl
    · decide
    · decide
    · exact ⟨(hs.ok x hx).1, (hs.ok x hx).2.1, (hs.ok x hx).2.2.1⟩
    · decide
  · obtain ⟨x, rfl, k1, k2⟩ := hQ
    exact c6_no1 r k1 (by rw [k2]; simp; omega) (by rw [k2]; rfl) fun h'' x'' => hk h'' (x'.trans x'')
theorem tD_ok {d s : List UInt8} (hd : ∀ x ∈ d, x ≠ 63 ∧ x ≠ 92 ∧ x ≠ 10) (hs : ∀ x ∈ s, x ≠ 63 ∧ x ≠ 92 ∧ x ≠ 10 ∧ x ≠ 34) : ∀ x ∈ tD d s, x ≠ 63 ∧ x ≠ 92 ∧ x ≠ 10 := fun x hx => by
  simp only [tD, List.mem_cons, List.mem_append, List.not_mem_nil, or_false] at hx
  rcases hx with hx | rfl | rfl | hx | rfl
  · exact hd x hx
  · decide
  · decide
  · exact ⟨(hs x hx).1, (hs x hx).2.1, (hs x hx).2.2.1⟩
  · decide
theorem dec_ok3 : ∀ x ∈ decL, x ≠ 63 ∧ x ≠ 92 ∧ x ≠ 10 := by decide
/-- what a line directive says -/
noncomputable def lnV (n : Int) (s : List UInt8) : AV := if 1 ≤ n ∧ n ≤ 2147483647 then .tuple [.int .i64 n, S s, .bool true, .bool true] else .tuple [.int .i64 (Int.ofNat 0), S [], .bool false, .bool false]
theorem lnD {s : List UInt8} (hs : Nm s) {n : Int} (hn : n < 9223372036854775808) {h : H} {k : KV} (hk : ∀ h', Exh h h' → k (lnV n s) h') : W1 (.func 9) [.int .i64 n] h fun v h' => asS v fun l c => catS l c 2 8736 fun l2 c2 => catS l2 c2 s.length (enc s) fun l3 c3 => catS l3 c3 1 34 fun l4 c4 => W1 (.func 7) [.str l4 c4] h' fun v2 h2 => W1 (.func 8) [v2] h2 k := by
  have hls := hs.le
  refine w9 (n := 1) sw_ok (g9 ?_)
  unfold s9_0
  by_cases hneg : n < 0
  · have hV : lnV n s = .tuple [.int .i64 (Int.ofNat 0), S [], .bool false, .bool false] := by
      unfold lnV; rw [if_neg (by omega)]
    refine c21_neg hneg fun h1 ds x1 d1 d2 d3 => ?_
    rw [asS_s]
    show asS (S (45 :: ds)) _
    rw [asS_s]
    refine catS_i (s := 45 :: ds) (t := [32, 34]) (by simp; omega) ?_
    refine catS_i (s := 45 :: ds ++ [32, 34]) (t := s) (by simp; omega) ?_
    refine catS_i (s := 45 :: ds ++ [32, 34] ++ s) (t := [34]) (by simp; omega) ?_
    have et : 45 :: ds ++ [32, 34] ++ s ++ [34] = tD (45 :: ds) s := by simp [tD]
    rw [et]
    have hlt : (tD (45 :: ds) s).length = ds.length + s.length + 4 := by simp [tD]; omega
    obtain ⟨x, r, e⟩ : ∃ x r, ds = x :: r := by cases ds with
      | nil => exact absurd rfl d2
      | cons x r => exact ⟨x, r, rfl⟩
    have hl : (tD (45 :: ds) s ++ [10]).length ≤ 1000000 := by rw [List.length_append, hlt]; simp; omega
    have hlx : Lx (tD (45 :: ds) s ++ [10]) (fun T => 2 < T.length) 0 false [] := by
      have e2 : tD (45 :: ds) s ++ [10] = 45 :: x :: (r ++ 32 :: 34 :: (s ++ [34]) ++ [10]) := by rw [e]; simp [tD]
      have e3 : tD (45 :: ds) s ++ [10] = [45] ++ (tD ds s ++ [10]) := by simp [tD]
      rw [e2] at hl ⊢
      refine lexM hl (dec_digit (d1 x (by rw [e]; exact List.mem_cons_self))) fun f t => ?_
      rw [← e2, e3]
      exact lexD (A := [45]) d1 d2 hs.ok fun _ _ _ _ => by simp
    refine c7 (by simp [tD]) (tD_ok (fun y hy => ?_) hs.ok) (by rw [hlt]; omega) hlx (fun T hQ => by intro e; rw [e] at hQ; exact absurd hQ (by decide)) fun h' v T hQ hT x' r' => ?_
    · rcases List.mem_cons.1 hy with rfl | hy
      · decide
      · exact dec_ok3 y (d1 y hy)
    · refine c8_bad r' hQ ?_
      rw [← hV]
      exact hk h' (x1.trans x')
  · obtain ⟨m, rfl⟩ : ∃ m : Nat, n = Int.ofNat m := ⟨n.toNat, by show n = ((n.toNat : Nat) : Int); omega⟩
    have hm : m < 9223372036854775808 := by have : ((m : Nat) : Int) < 9223372036854775808 := hn; omega
    refine c21_pos hm fun h1 ds x1 d1 d2 d3 d4 => ?_
    rw [asS_s]
    show asS (S ds) _
    rw [asS_s]
    refine catS_i (s := ds) (t := [32, 34]) (by simp; omega) ?_
    refine catS_i (s := ds ++ [32, 34]) (t := s) (by simp; omega) ?_
    refine catS_i (s := ds ++ [32, 34] ++ s) (t := [34]) (by simp; omega) ?_
    have et : ds ++ [32, 34] ++ s ++ [34] = tD ds s := by simp [tD]
    rw [et]
    have hlt : (tD ds s).length = ds.length + s.length + 3 := by simp [tD]; omega
    have hlx : Lx (tD ds s ++ [10]) (fun T => ∃ x y : Tok, T = [x, y] ∧ x.kind = 2 ∧ x.text = ds ∧ y.kind = 4 ∧ y.text = 34 :: (s ++ [34])) 0 false [] :=
      lexD (A := []) d1 d2 hs.ok fun _ _ _ _ => ⟨_, _, rfl, rfl, rfl, rfl, rfl⟩
    refine c7 (by simp [tD]) (tD_ok (fun y hy => dec_ok3 y (d1 y hy)) hs.ok) (by rw [hlt]; omega) hlx (fun T hQ => by obtain ⟨_, _, rfl, _⟩ := hQ; simp) fun h' v T hQ hT x' r' => ?_
    obtain ⟨x, y, rfl, k1, k2, k3, k4⟩ := hQ
    refine c8 (s := s) r' k1 (by rw [k2]; exact d1) (by rw [k2]; exact d2) (by rw [k2]; omega) (by rw [k2, d4]; exact hm) k3 k4 (fun z hz => ⟨(hs.ok z hz).2.2.2, (hs.ok z hz).2.1⟩) (by omega) fun h'' x'' => ?_
    have hV : (if 1 ≤ valN 10 0 x.text ∧ valN 10 0 x.text ≤ 2147483647 then AV.tuple [.int .i64 (Int.ofNat (valN 10 0 x.text)), S s, .bool true, .bool true] else .tuple [.int .i64 (Int.ofNat 0), S [], .bool false, .bool false]) = lnV (Int.ofNat m) s := by
      rw [k2, d4]
      unfold lnV
      by_cases e : 1 ≤ m ∧ m ≤ 2147483647
      · rw [if_pos e, if_pos (by show (1 : Int) ≤ ((m : Nat) : Int) ∧ ((m : Nat) : Int) ≤ 2147483647; omega)]
      · rw [if_neg e, if_neg (by show ¬ ((1 : Int) ≤ ((m : Nat) : Int) ∧ ((m : Nat) : Int) ≤ 2147483647); omega)]
    rw [hV]
    exact hk h'' (x1.trans (x'.trans x''))
theorem strEq_self {s : List UInt8} : strEq s.length (enc s) s.length (enc s) = true := by rw [strEq_enc]; exact decide_eq_true rfl
/-- the end: what is asked of the answers -/
theorem c3_3 {s : List UInt8} {n n15 : Int} {l16 c16 : Nat} {p q : P} {b17 b18 : Bool} {m : Nat} {h : H} (ha : h.at p = .row (tlist [S s, .bool false] 0 (tlist [.str 0 0, .bool false] 0 .e)) 2 0 24 true) (hb : h.at q = .row (tlist [S s, .bool true] 0 (tlist [.str 0 0, .bool false] 0 .e)) 2 0 24 true)
    (hl : lnV n s = .tuple [.int .i64 n15, .str l16 c16, .bool b17, .bool b18]) : (r3 W1 (fun v _ => v = .bool true) (m + 1)).a3 s.length (enc s) n (.ptr p 0) true (.ptr q 0) true false false n15 l16 c16 b17 b18 h := by
  have ein : (ible (Int.ofNat 1) n && ible n (Int.ofNat 2147483647)) = decide (1 ≤ n ∧ n ≤ 2147483647) := by
    rw [ible_eq, ible_eq, Bool.decide_and]; rfl
  have g0 : ∀ b, tget (tlist [S s, .bool b] 0 (tlist [.str 0 0, .bool false] 0 .e)) 0 = S s := fun b => by rw [tget_tlist]; rfl
  have g1 : ∀ b, tget (tlist [S s, .bool b] 0 (tlist [.str 0 0, .bool false] 0 .e)) 1 = .bool b := fun b => by rw [tget_tlist]; rfl
  refine j3_3 ?_
  unfold s3_3
  refine and_b ?_
  rw [ein]
  refine and_i (fun _ => ?_) (fun e => nomatch e)
  rw [fAddr_0]
  refine ld1_i ha (by decide) ?_
  rw [g0, asS_s, strEq_self]
  refine and_i (fun _ => ?_) (fun e => nomatch e)
  rw [fAddr_1]
  refine ld1_i ha (by decide) ?_
  rw [g1, asB_b]
  refine and_b ?_
  refine and_i (fun _ => ?_) (fun e => nomatch e)
  rw [fAddr_0]
  refine ld1_i hb (by decide) ?_
  rw [g0, asS_s, strEq_self]
  refine and_i (fun _ => ?_) (fun e => nomatch e)
  rw [fAddr_1]
  refine ld1_i hb (by decide) ?_
  rw [g1, asB_b]
  refine and_b ?_
  refine and_b ?_
  refine and_i (fun _ => ?_) (fun e => nomatch e)
  rw [eqBB, oV_some, asB_b]
  unfold lnV at hl
  by_cases e : 1 ≤ n ∧ n ≤ 2147483647
  · rw [if_pos e] at hl
    cases hl
    rw [decide_eq_true e]
    refine and_i (fun _ => ?_) (fun e => nomatch e)
    refine or_i (fun _ => ?_) (fun e => nomatch e)
    refine and_b ?_
    refine and_b ?_
    rw [ibeq_eq, beq_self_eq_true, strEq_self]
    refine and_i (fun _ => ?_) (fun e => nomatch e)
    refine use2 c5 ?_
    rfl
  · rw [if_neg e] at hl
    cases hl
    rw [decide_eq_false e]
    refine and_i (fun _ => ?_) (fun e => nomatch e)
    refine or_i (fun e => nomatch e) (fun _ => ?_)
    refine and_i (fun _ => ?_) (fun e => nomatch e)
    refine use2 c5 ?_
    rfl
end Go.Den
