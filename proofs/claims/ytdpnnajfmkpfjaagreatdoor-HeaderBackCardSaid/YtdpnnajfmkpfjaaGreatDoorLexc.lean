/-
  A part of the proof: what HeaderSpaces asks, step by step.
-/
import Derived.Test.YtdpnnajfmkpfjaaGreatDoorLexb
import Derived.Test.YtdpnnajfmkpfjaaGreatDoorAwk
namespace Go.Den
open Go.RowKit
set_option maxRecDepth 100000
theorem eq24 (l c m e : Nat) (b d : Bool) : eqA env 24 (.agg [.str l c, .bool b]) (.agg [.str m e, .bool d]) = (Bool.rec (some false) (Bool.rec (some false) (some true) (beqB b d)) (band (Nat.beq l m) (Nat.beq c e)) : Option Bool) := by kernel_rfl
theorem eqN24 (s : List UInt8) (b : Bool) : binA env .eql 24 (.agg [S s, .bool b]) (.agg [S s, .bool b]) = some (.bool true) := by
  have e : binA env .eql 24 (.agg [S s, .bool b]) (.agg [S s, .bool b]) = eqAns (eqA env 24 (.agg [.str s.length (enc s), .bool b]) (.agg [.str s.length (enc s), .bool b])) := rfl
  rw [e, eq24, Nat.beq_refl, Nat.beq_refl]
  cases b <;> rfl
theorem exB24o (l c : Nat) (h : H) : exBuild env (env.ty 24) [(0, .str l c)] h = some (.agg [.str l c, .bool false], h) := by kernel_rfl
/-- the texts -/
def tA (s : List UInt8) : List UInt8 := 60 :: (s ++ [62])
def tB (s : List UInt8) : List UInt8 := 60 :: 32 :: (s ++ [32, 62])
def tC (s : List UInt8) : List UInt8 := 34 :: (s ++ [34])
/-- a text that lies as space and words -/
structure HS (s want : List UInt8) : Prop where
  ne : want ≠ []
  fst : ∃ c s', s = c :: s' ∧ lowC c = true
  ok : ∀ x ∈ s, x ≠ 63 ∧ x ≠ 92 ∧ x ≠ 10 ∧ x ≠ 34
  ls : s.length ≤ 900
  lw : want.length ≤ 900
  go : ∀ {A R : List UInt8} {c : UInt8} {Q : List Tok → Prop} {b : Bool} {T : List Tok}, stopC c = true → (∀ x : UInt8, (lowC x || x == 46) = true → joinOk x c = true) → (A ++ (s ++ c :: R)).length ≤ 1000000 →
    (∀ T', T' ≠ [] → txt T' = sp b ++ want → Lx (A ++ (s ++ c :: R)) Q (A.length + s.length) false (T ++ T')) → Lx (A ++ (s ++ c :: R)) Q A.length b T
def QA (want : List UInt8) (T : List Tok) : Prop := ∃ t0 T' tn, T = t0 :: (T' ++ [tn]) ∧ t0.kind = 5 ∧ t0.text = [60] ∧ tn.kind = 5 ∧ tn.text = [62] ∧ txt T' = want
def QC (s : List UInt8) (T : List Tok) : Prop := ∃ x, T = [x] ∧ x.kind = 4 ∧ x.text = 34 :: (s ++ [34])
theorem stop62 : stopC 62 = true := by decide
theorem stop32 : stopC 32 = true := by decide
theorem lexA {s want : List UInt8} (hs : HS s want) : Lx (tA s ++ [10]) (QA want) 0 false [] := by
  obtain ⟨c, s', e, hc⟩ := hs.fst
  have hls := hs.ls
  have e1 : tA s ++ [10] = [] ++ 60 :: c :: (s' ++ [62, 10]) := by rw [e]; simp [tA]
  have e2 : tA s ++ [10] = [60] ++ (s ++ 62 :: [10]) := by simp [tA]
  have e3 : tA s ++ [10] = (60 :: s) ++ 62 :: 10 :: [] := by simp [tA]
  have hl : (tA s ++ [10]).length ≤ 1000000 := by rw [e2]; simp; omega
  rw [e1] at hl ⊢
  refine Lx.angle hl (.inl rfl) (join60 c (by rw [hc]; rfl)) fun f t => ?_
  rw [← e1] at hl ⊢
  rw [e2] at hl ⊢
  refine hs.go (A := [60]) stop62 join62 hl fun T' h1 h2 => ?_
  rw [← e2] at hl ⊢
  have h3 : ([60] : List UInt8).length + s.length = (60 :: s).length := by simp; omega
  rw [h3, e3] at *
  refine Lx.angle hl (.inr rfl) (by decide) fun f' t' => ?_
  have h4 : (60 :: s).length + 1 = (60 :: s ++ 62 :: 10 :: []).length - 1 := by simp
  rw [h4]
  exact Lx.ends ⟨⟨5, [60], false, f, t⟩, T', ⟨5, [62], false, f', t'⟩, by simp, rfl, rfl, rfl, rfl, h2⟩
theorem lexB {s want : List UInt8} (hs : HS s want) : Lx (tB s ++ [10]) (QA (32 :: want)) 0 false [] := by
  have hls := hs.ls
  have e1 : tB s ++ [10] = [] ++ 60 :: 32 :: (s ++ [32, 62, 10]) := by simp [tB]
  have e2 : tB s ++ [10] = [60] ++ 32 :: (s ++ [32, 62, 10]) := by simp [tB]
  have e3 : tB s ++ [10] = [60, 32] ++ (s ++ 32 :: [62, 10]) := by simp [tB]
  have e4 : tB s ++ [10] = (60 :: 32 :: s) ++ 32 :: [62, 10] := by simp [tB]
  have e5 : tB s ++ [10] = (60 :: 32 :: (s ++ [32])) ++ 62 :: 10 :: [] := by simp [tB]
  have hl : (tB s ++ [10]).length ≤ 1000000 := by rw [e3]; simp; omega
  rw [e1] at hl ⊢
  refine Lx.angle hl (.inl rfl) (by decide) fun f t => ?_
  rw [← e1] at hl ⊢
  rw [e2] at hl ⊢
  refine Lx.blank (A := [60]) ?_
  rw [← e2] at hl ⊢
  rw [e3] at hl ⊢
  refine hs.go (A := [60, 32]) stop32 join32 hl fun T' h1 h2 => ?_
  rw [← e3] at hl ⊢
  have h3 : ([60, 32] : List UInt8).length + s.length = (60 :: 32 :: s).length := by simp; omega
  rw [h3, e4] at *
  refine Lx.blank ?_
  rw [← e4] at hl ⊢
  have h3' : (60 :: 32 :: s).length + 1 = (60 :: 32 :: (s ++ [32])).length := by simp
  rw [h3', e5] at *
  refine Lx.angle hl (.inr rfl) (by decide) fun f' t' => ?_
  have h4 : (60 :: 32 :: (s ++ [32])).length + 1 = (60 :: 32 :: (s ++ [32]) ++ 62 :: 10 :: []).length - 1 := by simp
  rw [h4]
  exact Lx.ends ⟨⟨5, [60], false, f, t⟩, T', ⟨5, [62], true, f', t'⟩, by simp, rfl, rfl, rfl, rfl, h2⟩
theorem lexC {s : List UInt8} (hok : ∀ x ∈ s, x ≠ 63 ∧ x ≠ 92 ∧ x ≠ 10 ∧ x ≠ 34) : Lx (tC s ++ [10]) (QC s) 0 false [] := by
  have e : tC s ++ [10] = 34 :: (s ++ 34 :: [10]) := by simp [tC]
  have hb : ∀ x, 0 < x → x < s.length + 1 → bt (tC s ++ [10]) x ∈ s := fun x h1 h2 => by
    rw [e]
    have : bt (34 :: (s ++ 34 :: [10])) x = bt (s ++ 34 :: [10]) (x - 1) := by
      have := bt_app [34] (s ++ 34 :: [10]) (x - 1)
      rw [show ([34] : List UInt8).length + (x - 1) = x by show 1 + (x - 1) = x; omega] at this
      exact this
    rw [this, bt_left (by omega)]
    exact List.getElem_mem _
  have hq : bt (tC s ++ [10]) (s.length + 1) = 34 := by
    rw [e]
    have := bt_app (34 :: s) (34 :: [10]) 0
    exact this
  have hlen : (tC s ++ [10]).length = s.length + 3 := by rw [e]; simp
  have h0 : bt (tC s ++ [10]) 0 = 34 := rfl
  refine Lx.q (i := 0) (a := 0) (m := s.length + 1) (by omega) (by omega) ?_ (by rw [h0]; decide) (by rw [h0]; decide) (by rw [h0]; decide) h0 hq (fun x h1 h2 => ?_) fun f t => ?_
  · unfold lettersV; rw [h0]; rfl
  · have := hok _ (hb x (by omega) (by omega))
    exact ⟨this.2.2.2, this.2.2.1, this.2.1⟩
  · have h4 : s.length + 1 + 1 = (tC s ++ [10]).length - 1 := by rw [hlen]; omega
    rw [h4]
    refine Lx.ends ⟨_, rfl, rfl, ?_⟩
    rw [hlen, List.drop_zero, e]
    show 34 :: List.take (s.length + 1) (s ++ 34 :: [10]) = 34 :: (s ++ [34])
    rw [show s ++ 34 :: [10] = (s ++ [34]) ++ [10] by simp, List.take_left']; simp
theorem ofA {s want : List UInt8} (hs : HS s want) {h : H} {k : KV} (hk : ∀ h', Exh h h' → k (.tuple [.agg [S want, .bool false], .bool true]) h') : W1 (.func 7) [S (tA s)] h fun v h' => W1 (.func 6) [v] h' k := by
  have hls := hs.ls
  have hlw := hs.lw
  have hlt : (tA s).length = s.length + 2 := by simp [tA]
  refine c7 (by simp [tA]) (fun x hx => ?_) (by rw [hlt]; omega) (lexA hs) (fun T hQ => by obtain ⟨_, _, _, rfl, _⟩ := hQ; simp) fun h' v T hQ hT x' r => ?_
  · simp only [tA, List.mem_cons, List.mem_append, List.not_mem_nil, or_false] at hx
    rcases hx with rfl | hx | rfl
    · decide
    · exact ⟨(hs.ok x hx).1, (hs.ok x hx).2.1, (hs.ok x hx).2.2.1⟩
    · decide
  · obtain ⟨t0, T', tn, rfl, k1, k2, k3, k4, k5⟩ := hQ
    subst k5
    rw [hlt] at hT
    exact c6_angle r k1 k2 k3 k4 hs.ne (by omega) (by simp at hT; omega) fun h'' x'' => hk h'' (x'.trans x'')
theorem ofB {s want : List UInt8} (hs : HS s want) {h : H} {k : KV} (hk : ∀ h', Exh h h' → k (.tuple [.agg [S (32 :: want), .bool false], .bool true]) h') : W1 (.func 7) [S (tB s)] h fun v h' => W1 (.func 6) [v] h' k := by
  have hls := hs.ls
  have hlw := hs.lw
  have hlt : (tB s).length = s.length + 4 := by simp [tB]
  refine c7 (by simp [tB]) (fun x hx => ?_) (by rw [hlt]; omega) (lexB hs) (fun T hQ => by obtain ⟨_, _, _, rfl, _⟩ := hQ; simp) fun h' v T hQ hT x' r => ?_
  · simp only [tB, List.mem_cons, List.mem_append, List.not_mem_nil, or_false] at hx
    rcases hx with rfl | rfl | hx | rfl | rfl
    · decide
    · decide
    · exact ⟨(hs.ok x hx).1, (hs.ok x hx).2.1, (hs.ok x hx).2.2.1⟩
    · decide
    · decide
  · obtain ⟨t0, T', tn, rfl, k1, k2, k3, k4, k5⟩ := hQ
    rw [hlt] at hT
    refine c6_angle r k1 k2 k3 k4 (by rw [k5]; simp) (by rw [k5]; simp; omega) (by simp at hT; omega) fun h'' x'' => ?_
    rw [k5]; exact hk h'' (x'.trans x'')
theorem ofC {s : List UInt8} (hne : s ≠ []) (hok : ∀ x ∈ s, x ≠ 63 ∧ x ≠ 92 ∧ x ≠ 10 ∧ x ≠ 34) (hls : s.length ≤ 900) {h : H} {k : KV} (hk : ∀ h', Exh h h' → k (.tuple [.agg [S s, .bool true], .bool true]) h') : W1 (.func 7) [S (tC s)] h fun v h' => W1 (.func 6) [v] h' k := by
  have hlt : (tC s).length = s.length + 2 := by simp [tC]
  refine c7 (by simp [tC]) (fun x hx => ?_) (by rw [hlt]; omega) (lexC hok) (fun T hQ => by obtain ⟨_, rfl, _⟩ := hQ; simp) fun h' v T hQ hT x' r => ?_
  · simp only [tC, List.mem_cons, List.mem_append, List.not_mem_nil, or_false] at hx
    rcases hx with rfl | hx | rfl
    · decide
    · exact ⟨(hok x hx).1, (hok x hx).2.1, (hok x hx).2.2.1⟩
    · decide
  · obtain ⟨x, rfl, k1, k2⟩ := hQ
    exact c6_str r k1 k2 hne (by omega) fun h'' x'' => hk h'' (x'.trans x'')
/-- the end of the law -/
theorem c4_end {v0 : AV} {n1 : Int} {s want : List UInt8} {m : Nat} {i : Nat} {h : H} (hs : HS s want) (hv : ∀ {K : Nat → Prop}, lenV v0 K = K i) : (r4 W1 (fun v _ => v = .bool true) (m + 1)).a1 v0 n1 s.length (enc s) want.length (enc want) (Int.ofNat i) h := by
  have hls := hs.ls
  have hlw := hs.lw
  have hsne : s ≠ [] := by obtain ⟨c, s', e, _⟩ := hs.fst; rw [e]; simp
  refine j4_1 ?_
  unfold s4_1
  rw [hv, ilt, decide_eq_false (Nat.lt_irrefl i)]
  refine cnd_f rfl ?_
  refine catS_i (s := [60]) (t := s) (by simp; omega) ?_
  refine catS_i (s := [60] ++ s) (t := [62]) (by simp; omega) ?_
  refine ofA hs fun h1 x1 => ?_
  rw [ext_0, ext_1, asB_b]
  refine newK_i ?_
  have a0 : (h1.new ob24).at h1.next = R24 := at_new_same _ _
  refine stn_i (c := 2) a0 (Nat.le_refl _) rfl (by decide) (by decide) ?_
  generalize hh2 : (h1.new ob24).put h1.next (.row (tlist [S want, .bool false] 0 (tlist [.str 0 0, .bool false] 0 .e)) 2 0 24 true) = h2
  have a2 : h2.at h1.next = .row (tlist [S want, .bool false] 0 (tlist [.str 0 0, .bool false] 0 .e)) 2 0 24 true := by subst hh2; exact at_put_same _ _ _
  have n2 : h1.next.nat < h2.next.nat := by subst hh2; rw [next_put, next_new]; omega
  generalize h1.next = p at *
  refine catS_i (s := [60, 32]) (t := s) (by simp; omega) ?_
  refine catS_i (s := [60, 32] ++ s) (t := [32, 62]) (by simp; omega) ?_
  refine ofB hs fun h3 x3 => ?_
  rw [ext_0, ext_1, asB_b]
  refine newK_i ?_
  have b0 : (h3.new ob24).at h3.next = R24 := at_new_same _ _
  refine stn_i (c := 2) b0 (Nat.le_refl _) rfl (by decide) (by decide) ?_
  have a3 := (x3.2 _ n2).trans a2
  have n3 : p.nat < h3.next.nat := Nat.lt_of_lt_of_le n2 x3.1
  generalize hh4 : (h3.new ob24).put h3.next (.row (tlist [S (32 :: want), .bool false] 0 (tlist [.str 0 0, .bool false] 0 .e)) 2 0 24 true) = h4
  have a4 : h4.at p = .row (tlist [S want, .bool false] 0 (tlist [.str 0 0, .bool false] 0 .e)) 2 0 24 true := by
    subst hh4
    rw [at_put_o (fun e => by subst e; exact absurd n3 (Nat.lt_irrefl _)), at_new_o n3]; exact a3
  have b4 : h4.at h3.next = .row (tlist [S (32 :: want), .bool false] 0 (tlist [.str 0 0, .bool false] 0 .e)) 2 0 24 true := by subst hh4; exact at_put_same _ _ _
  have n4 : h3.next.nat < h4.next.nat := by subst hh4; rw [next_put, next_new]; omega
  generalize h3.next = q at *
  have m4 : p.nat < h4.next.nat := by omega
  refine catS_i (s := [34]) (t := s) (by simp; omega) ?_
  refine catS_i (s := [34] ++ s) (t := [34]) (by simp; omega) ?_
  refine ofC hsne hs.ok hls fun h5 x5 => ?_
  rw [ext_0, ext_1, asB_b]
  refine newK_i ?_
  have c0 : (h5.new ob24).at h5.next = R24 := at_new_same _ _
  refine stn_i (c := 2) c0 (Nat.le_refl _) rfl (by decide) (by decide) ?_
  have a5 := (x5.2 _ m4).trans a4
  have b5 := (x5.2 _ n4).trans b4
  have n5 : p.nat < h5.next.nat := Nat.lt_of_lt_of_le m4 x5.1
  have m5 : q.nat < h5.next.nat := Nat.lt_of_lt_of_le n4 x5.1
  generalize hh6 : (h5.new ob24).put h5.next (.row (tlist [S s, .bool true] 0 (tlist [.str 0 0, .bool false] 0 .e)) 2 0 24 true) = h6
  have a6 : h6.at p = .row (tlist [S want, .bool false] 0 (tlist [.str 0 0, .bool false] 0 .e)) 2 0 24 true := by
    subst hh6
    rw [at_put_o (fun e => by subst e; exact absurd n5 (Nat.lt_irrefl _)), at_new_o n5]; exact a5
  have b6 : h6.at q = .row (tlist [S (32 :: want), .bool false] 0 (tlist [.str 0 0, .bool false] 0 .e)) 2 0 24 true := by
    subst hh6
    rw [at_put_o (fun e => by subst e; exact absurd m5 (Nat.lt_irrefl _)), at_new_o m5]; exact b5
  have c6' : h6.at h5.next = .row (tlist [S s, .bool true] 0 (tlist [.str 0 0, .bool false] 0 .e)) 2 0 24 true := by subst hh6; exact at_put_same _ _ _
  refine and_i (fun _ => ?_) (fun e => nomatch e)
  refine ldn_i (c := 2) a6 (by decide) ?_
  rw [show getCells (tlist [S want, .bool false] 0 (tlist [.str 0 0, .bool false] 0 .e)) 2 0 = [S want, .bool false] from getCells_tlist [S want, .bool false] _, exB24o, oK_some, eqN24, oV_some, asB_b]
  refine and_b ?_
  refine and_i (fun _ => ?_) (fun e => nomatch e)
  refine ldn_i (c := 2) b6 (by decide) ?_
  refine catS_i (s := [32]) (t := want) (by simp; omega) ?_
  rw [show getCells (tlist [S (32 :: want), .bool false] 0 (tlist [.str 0 0, .bool false] 0 .e)) 2 0 = [S (32 :: want), .bool false] from getCells_tlist [S (32 :: want), .bool false] _, exB24o, oK_some]
  show oV (binA env .eql 24 (.agg [S (32 :: want), .bool false]) (.agg [S (32 :: want), .bool false])) _
  rw [eqN24, oV_some, asB_b]
  refine and_b ?_
  refine and_i (fun _ => ?_) (fun e => nomatch e)
  refine ldn_i (c := 2) c6' (by decide) ?_
  rw [show getCells (tlist [S s, .bool true] 0 (tlist [.str 0 0, .bool false] 0 .e)) 2 0 = [S s, .bool true] from getCells_tlist [S s, .bool true] _, exB24, oK_some, eqN24, oV_some, asB_b]
  refine and_i (fun _ => ?_) (fun e => nomatch e)
  refine use2 c5 ?_
  rfl
end Go.Den
