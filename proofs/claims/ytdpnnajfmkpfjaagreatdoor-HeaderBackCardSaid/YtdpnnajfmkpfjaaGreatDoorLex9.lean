/-
  A part of the proof: header.Of.
-/
import Derived.Test.YtdpnnajfmkpfjaaGreatDoorLex8
namespace Go.Den
open Go.RowKit
set_option maxRecDepth 100000
def cutP (s t : List UInt8) : List UInt8 × Bool := if s.take t.length = t then (s.drop t.length, true) else (s, false)
def cutX (s t : List UInt8) : List UInt8 × Bool := if t.length ≤ s.length ∧ s.drop (s.length - t.length) = t then (s.take (s.length - t.length), true) else (s, false)
theorem c35 (s t : List UInt8) : Pure PP G h0 35 [S s, S t] (.tuple [S (cutP s t).1, .bool (cutP s t).2]) := by
  refine w35 (n := 1) sw_ok (g35 ?_)
  unfold s35_0
  refine use2 (c32 s t) ?_
  rw [asB_b]
  refine cnd_i (fun e => ?_) (fun e => ?_)
  · have e : ¬ s.take t.length = t := fun h => by rw [decide_eq_true h] at e; cases e
    unfold cutP
    rw [if_neg e]
  · have e : s.take t.length = t := by
      by_cases h : s.take t.length = t
      · exact h
      · rw [decide_eq_false h] at e; cases e
    have hl : t.length ≤ s.length := by have := congrArg List.length e; rw [List.length_take] at this; omega
    refine cutS_d hl ?_
    unfold cutP
    rw [if_pos e]
theorem c22 (s t : List UInt8) : Pure PP G h0 22 [S s, S t] (.tuple [S (cutP s t).1, .bool (cutP s t).2]) := by
  refine w22 (n := 1) sw_ok (g22 ?_)
  unfold s22_0
  refine use2 (c35 s t) ?_
  rw [ext_0, asS_s, ext_1, asB_b]
theorem c60 (s t : List UInt8) (hs : s.length ≤ 9223372036854775807) : Pure PP G h0 60 [S s, S t] (.bool (decide (t.length ≤ s.length ∧ s.drop (s.length - t.length) = t))) := by
  refine w60 (n := 1) sw_ok (g60 ?_)
  unfold s60_0
  rw [ile]
  refine and_i (fun e => ?_) (fun e => ?_)
  · have e : t.length ≤ s.length := of_decide_eq_true e
    rw [isubN e, wrapN (by omega), fI_eq, natI_eq]
    refine cutS_d (by omega) ?_
    rw [strEq_enc]
    show AV.bool _ = _
    congr 1
    exact decide_eq_decide.2 ⟨fun h => ⟨e, h⟩, fun h => h.2⟩
  · have e : ¬ t.length ≤ s.length := of_decide_eq_false e
    show AV.bool false = _
    rw [decide_eq_false (fun h => e h.1)]
theorem c36 (s t : List UInt8) (hs : s.length ≤ 9223372036854775807) : Pure PP G h0 36 [S s, S t] (.tuple [S (cutX s t).1, .bool (cutX s t).2]) := by
  refine w36 (n := 1) sw_ok (g36 ?_)
  unfold s36_0
  refine use2 (c60 s t hs) ?_
  rw [asB_b]
  refine cnd_i (fun e => ?_) (fun e => ?_)
  · have e : ¬ (t.length ≤ s.length ∧ s.drop (s.length - t.length) = t) := fun h => by rw [decide_eq_true h] at e; cases e
    unfold cutX
    rw [if_neg e]
  · have e : t.length ≤ s.length ∧ s.drop (s.length - t.length) = t := by
      by_cases h : t.length ≤ s.length ∧ s.drop (s.length - t.length) = t
      · exact h
      · rw [decide_eq_false h] at e; cases e
    rw [isubN e.1, wrapN (by omega), fI_eq, natI_eq]
    refine cutS_t (by omega) ?_
    unfold cutX
    rw [if_pos e]
theorem c23 (s t : List UInt8) (hs : s.length ≤ 9223372036854775807) : Pure PP G h0 23 [S s, S t] (.tuple [S (cutX s t).1, .bool (cutX s t).2]) := by
  refine w23 (n := 1) sw_ok (g23 ?_)
  unfold s23_0
  refine use2 (c36 s t hs) ?_
  rw [ext_0, asS_s, ext_1, asB_b]
/-- tokens in a slice -/
noncomputable def tks (L : List Tok) : List (List AV) := L.map Tok.cells
theorem tks_len (L : List Tok) : (tks L).length = L.length := by unfold tks; simp
theorem tks_get {L : List Tok} {i : Nat} (h : i < L.length) (h' : i < (tks L).length) : (tks L)[i] = L[i].cells := List.getElem_map Tok.cells (h := h')
theorem Rd.tlen {h : H} {v : AV} {L : List Tok} (hr : Rd 8 h v (tks L)) {K : Nat → Prop} : lenV v K = K L.length := by rw [hr.len, tks_len]
theorem Rd.kind {h : H} {v : AV} {L : List Tok} {i : Nat} (hr : Rd 8 h v (tks L)) (hi : i < L.length) {K : AV → Prop} (hk : K (.int .i64 (.ofNat L[i].kind))) : elemA 8 i v fun a => fAddr 0 a fun a => Go.Den.ld1 a h K := by
  have hi' : i < (tks L).length := by rw [tks_len]; exact hi
  have hc := tks_get hi hi'
  refine hr.fld (j := 0) hi' (by rw [hc]; show 0 < 8; decide) ?_
  simp only [hc, Tok.cells, List.getElem_cons_zero]; exact hk
theorem Rd.text {h : H} {v : AV} {L : List Tok} {i : Nat} (hr : Rd 8 h v (tks L)) (hi : i < L.length) {K : AV → Prop} (hk : K (S L[i].text)) : elemA 8 i v fun a => fAddr 1 a fun a => Go.Den.ld1 a h K := by
  have hi' : i < (tks L).length := by rw [tks_len]; exact hi
  have hc := tks_get hi hi'
  refine hr.fld (j := 1) hi' (by rw [hc]; show 1 < 8; decide) ?_
  simp only [hc, Tok.cells, List.getElem_cons_succ, List.getElem_cons_zero]; exact hk
theorem Rd.tok {h : H} {v : AV} {L : List Tok} {i : Nat} (hr : Rd 8 h v (tks L)) (hi : i < L.length) {K : AV → Prop} (hk : K (.agg L[i].cells)) : elemA 8 i v fun a => Go.Den.ldn 8 a h K := by
  have hi' : i < (tks L).length := by rw [tks_len]; exact hi
  have hc := tks_get hi hi'
  refine hr.all hi' (by rw [hc]; rfl) ?_
  rw [hc]; exact hk
theorem asG_a {l : List AV} {K : List AV → Prop} : asG (.agg l) K = K l := rfl
theorem chk_t {K : Prop} : chk true K = K := rfl
theorem c12 {h : H} {x : Tok} {s : List UInt8} {k : KV} (hk : ∀ h', Exh h h' → k (.bool (decide (x.kind = 5) && decide (x.text = s))) h') : W1 (.func 12) [.agg x.cells, S s] h k := by
  refine w12 (n := 1) sw_ok (g12 ?_)
  unfold s12_0
  rw [asG_a, show Nat.ble 1 (len x.cells) = true from rfl, chk_t]
  refine newK_i ?_
  have a0 : (h.new (rowOf 47 x.cells)).at h.next = .row (tlist x.cells 0 .e) 8 0 47 true := at_new_same _ _
  rw [fAddr_0]
  refine ld1_i a0 (by decide) ?_
  rw [show tget (tlist x.cells 0 .e) 0 = .int .i64 (.ofNat x.kind) by rw [tget_tlist]; rfl, asI_k, ieqN]
  refine and_q (b := decide (x.text = s)) (fun k' hk' => ?_) ?_
  · rw [fAddr_1]
    refine ld1_i a0 (by decide) ?_
    rw [show tget (tlist x.cells 0 .e) 1 = S x.text by rw [tget_tlist]; rfl, asS_s, strEq_enc]; exact hk'
  exact hk _ Exh.new
/-- what stands between quotes -/
theorem c11_no {h : H} {v : AV} {L : List Tok} {k : KV} (hr : Rd 8 h v (tks L)) (hl : L.length ≠ 1) (hk : k (.tuple [S [], .bool false]) h) : W1 (.func 11) [v] h k := by
  refine w11 (n := 1) sw_ok (g11 ?_)
  unfold s11_0
  rw [hr.tlen, ieqN, decide_eq_false (show ¬ L.length = 1 from hl)]
  refine or_i (fun e => nomatch e) (fun _ => ?_)
  exact cnd_t rfl hk
theorem c11_1 {h : H} {v : AV} {x : Tok} {k : KV} (hr : Rd 8 h v (tks [x])) (hx : x.kind = 4) (hl : x.text.length ≤ 1000000) (hk : k (.tuple [S (cutX (cutP x.text [34]).1 [34]).1, .bool ((cutP x.text [34]).2 && (cutX (cutP x.text [34]).1 [34]).2)]) h) : W1 (.func 11) [v] h k := by
  refine w11 (n := 1) sw_ok (g11 ?_)
  unfold s11_0
  rw [hr.tlen]
  refine or_i (fun _ => ?_) (fun e => nomatch e)
  refine hr.kind (i := 0) Nat.one_pos ?_
  rw [asI_k, ieqN, decide_eq_true (show [x][0].kind = 4 from hx)]
  refine cnd_f rfl ?_
  refine hr.text (i := 0) Nat.one_pos ?_
  rw [asS_s]
  refine use2 (c22 x.text [34]) ?_
  rw [ext_0, asS_s, ext_1, asB_b]
  have hl2 : (cutP x.text [34]).1.length ≤ 1000000 := by
    unfold cutP
    by_cases e : x.text.take ([34] : List UInt8).length = [34]
    · rw [if_pos e]; show (x.text.drop 1).length ≤ _; rw [List.length_drop]; omega
    · rw [if_neg e]; exact hl
  refine use2 (c23 (cutP x.text [34]).1 [34] (by omega)) ?_
  rw [ext_0, asS_s, ext_1, asB_b]
  refine and_b ?_
  exact hk
theorem exB24 (l c : Nat) (b : Bool) (h : H) : exBuild env (env.ty 24) [(0, .str l c), (1, .bool b)] h = some (.agg [.str l c, .bool b], h) := by kernel_rfl
theorem exB24z (h : H) : exBuild env (env.ty 24) [] h = some (.agg [.str 0 0, .bool false], h) := by kernel_rfl
theorem Bd.ext {lo : Nat} {h h' : H} {b : P} {l : List UInt8} (hb : Bd lo h b l) (x : Exh h h') : Bd lo h' b l := by
  obtain ⟨t, a1, a2, a3, a4, a5⟩ := hb
  exact ⟨t, by rw [x.2 b a2]; exact a1, Nat.lt_of_lt_of_le a2 x.1, Nat.le_trans a3 x.1, a4, a5.ext x⟩
theorem Rd.cut8' {hE h : H} {v : AV} {L : List Tok} (hr : Rd 8 hE v (tks L)) {lo hi : Nat} (h1 : lo ≤ hi) (h2 : hi ≤ L.length) {k : KV} (hk : ∀ v', Rd 8 hE v' (tks ((L.drop lo).take (hi - lo))) → k v' h) : oK (slice3 env h 27 v (some (some lo)) (some (some hi)) none) k := by
  obtain ⟨q, o, t, m, z, e, w, b, rfl, a1, a2, a3, a4⟩ := hr
  rw [cut27 h1 (by rw [tks_len]; exact h2), oK_some]
  have hl : (((tks L).drop lo).take (hi - lo)).length = hi - lo := by rw [List.length_take, List.length_drop, tks_len]; omega
  have e : tks ((L.drop lo).take (hi - lo)) = ((tks L).drop lo).take (hi - lo) := by unfold tks; rw [List.map_take, List.map_drop]
  refine hk _ ?_
  rw [e]
  exact ⟨q, _, t, m, z, _, w, _, by rw [hl], a1, a2, by rw [hl]; have : hi * 8 ≤ (tks L).length * 8 := Nat.mul_le_mul_right _ (by rw [tks_len]; exact h2); omega, a4.cut⟩
theorem txt_take (T : List Tok) (j : Nat) (hj : j < T.length) : txt (T.take (j + 1)) = txt (T.take j) ++ sp T[j].space ++ T[j].text := by
  rw [List.take_succ_eq_append_getElem hj, txt_app, List.append_assoc]
  congr 1
  unfold txt sp; simp
theorem txt_le (T : List Tok) (j : Nat) : (txt (T.take j)).length ≤ (txt T).length := by
  have : txt T = txt (T.take j) ++ txt (T.drop j) := by rw [← txt_app, List.take_append_drop]
  rw [this, List.length_append]; omega
noncomputable def R24 : Ob FT := .row (tlist [.str 0 0, .bool false] 0 .e) 2 0 24 true
theorem c6_1 {hE : H} {p1 p3 : P} {lo : Nat} {v44 : AV} {T : List Tok} {k : KV} (hr : Rd 8 hE v44 (tks T)) (e1 : hE.next.nat ≤ p1.nat) (e3 : hE.next.nat ≤ p3.nat) (e4 : hE.next.nat ≤ lo) (ne : p1 ≠ p3) (hT : txt T ≠ []) (hl : (txt T).length ≤ 1000000) (hlT : T.length ≤ 1000000)
    (hk : ∀ h', Exh hE h' → k (.tuple [.agg [S (txt T), .bool false], .bool true]) h') : ∀ (n j : Nat) {h : H}, 2 * (T.length - j) + 1 < n → j ≤ T.length → Exh hE h → p1.nat < h.next.nat → h.at p1 = R24 → Bd lo h p3 (txt (T.take j)) → (r6 W1 k n).a1 (.ptr p1 0) (.ptr p3 0) v44 (Int.ofNat T.length) (Int.ofNat j) h
  | 0, _, _, hn, _, _, _, _, _ => absurd hn (Nat.not_lt_zero _)
  | n + 1, j, h, hn, hj, hx, hp, hp1, hb => by
    refine j6_1 ?_
    unfold s6_1
    rw [ilt]
    refine cnd_i (fun e => ?_) (fun e => ?_)
    · have e : j < T.length := of_decide_eq_true e
      obtain ⟨n, rfl⟩ : ∃ m, n = m + 1 := ⟨n - 1, by omega⟩
      rw [natI_eq]
      refine (hr.ext hx).tok e ?_
      refine newK_i ?_
      have a0 : (h.new ob47).at h.next = .row (tlist [(.int .i64 (Int.ofNat 0)), (.str 0 0), (.bool false), (.str 0 0), (.int .i64 (Int.ofNat 0)), (.int .i64 (Int.ofNat 0)), (.bool false), .nils] 0 .e) 8 0 47 true := at_new_same _ _
      refine stn_i (c := 8) a0 (Nat.le_refl _) rfl (by decide) (by decide) ?_
      generalize hh3 : (h.new ob47).put h.next (.row (tlist T[j].cells 0 (tlist [(.int .i64 (Int.ofNat 0)), (.str 0 0), (.bool false), (.str 0 0), (.int .i64 (Int.ofNat 0)), (.int .i64 (Int.ofNat 0)), (.bool false), .nils] 0 .e)) 8 0 47 true) = h3
      have a3 : h3.at h.next = .row (tlist T[j].cells 0 (tlist [(.int .i64 (Int.ofNat 0)), (.str 0 0), (.bool false), (.str 0 0), (.int .i64 (Int.ofNat 0)), (.int .i64 (Int.ofNat 0)), (.bool false), .nils] 0 .e)) 8 0 47 true := by subst hh3; exact at_put_same _ _ _
      have n3 : h3.next.nat = h.next.nat + 1 := by subst hh3; rw [next_put, next_new]
      have x3 : Exh h h3 := by
        subst hh3
        refine ⟨by rw [next_put, next_new]; omega, fun c hc => ?_⟩
        rw [at_put_o (fun e => by subst e; exact absurd hc (Nat.lt_irrefl _)), at_new_o hc]
      have g2 : tget (tlist T[j].cells 0 (tlist [(.int .i64 (Int.ofNat 0)), (.str 0 0), (.bool false), (.str 0 0), (.int .i64 (Int.ofNat 0)), (.int .i64 (Int.ofNat 0)), (.bool false), .nils] 0 .e)) 2 = .bool T[j].space := by rw [tget_tlist]; rfl
      have g1 : tget (tlist T[j].cells 0 (tlist [(.int .i64 (Int.ofNat 0)), (.str 0 0), (.bool false), (.str 0 0), (.int .i64 (Int.ofNat 0)), (.int .i64 (Int.ofNat 0)), (.bool false), .nils] 0 .e)) 1 = S T[j].text := by rw [tget_tlist]; rfl
      have b3 := hb.ext x3
      have l1 := txt_le T (j + 1)
      rw [txt_take T j e, List.length_append, List.length_append] at l1
      have pne : h.next ≠ p3 := fun e' => by obtain ⟨_, _, q, _⟩ := hb; rw [← e'] at q; exact absurd q (Nat.lt_irrefl _)
      -- the rest of a turn
      have fin : ∀ h4, Exh hE h4 → p1.nat < h4.next.nat → h4.at p1 = R24 → h4.at h.next = h3.at h.next → Bd lo h4 p3 (txt (T.take j) ++ sp T[j].space) → (r6 W1 k (n + 1)).a2 (.ptr p1 0) (.ptr p3 0) (.ptr h.next 0) v44 (Int.ofNat T.length) (Int.ofNat j) h4 := by
        intro h4 x4 q1 q2 q3 b4
        refine j6_2 ?_
        unfold s6_2
        rw [fAddr_1]
        refine ld1_i (q3.trans a3) (by decide) ?_
        rw [g1, asS_s]
        refine c14n b4 (by rw [List.length_append]; omega) fun _ h5 b5 f5 => ?_
        rw [iaddN, wrapN (by omega), fI_eq]
        refine c6_1 hr e1 e3 e4 ne hT hl hlT hk n (j + 1) (by omega) e (f5.exh x4 e4 e3) (Nat.lt_of_lt_of_le q1 f5.1) ?_ ?_
        · rw [f5.2 p1 q1 ne (.inr ⟨_, _, _, _, _, q2, by decide⟩)]; exact q2
        · rw [txt_take T j e]; exact b5
      have p13 : h3.at p1 = R24 := by rw [x3.2 p1 hp]; exact hp1
      rw [fAddr_i]
      refine ld1_i (o := 0 + 2) a3 (by decide) ?_
      rw [show tget (tlist T[j].cells 0 (tlist [(.int .i64 (Int.ofNat 0)), (.str 0 0), (.bool false), (.str 0 0), (.int .i64 (Int.ofNat 0)), (.int .i64 (Int.ofNat 0)), (.bool false), .nils] 0 .e)) (0 + 2) = .bool T[j].space from g2, asB_b]
      refine cnd_i (fun es => ?_) (fun es => ?_)
      · refine c13n (x := 32) b3 (by omega) fun h4 b4 f4 => ?_
        refine fin h4 (f4.exh (hx.trans x3) e4 e3) (by have := f4.1; omega) ?_ ?_ ?_
        · rw [f4.2 p1 (by omega) ne (.inr ⟨_, _, _, _, _, p13, by decide⟩)]; exact p13
        · exact f4.2 h.next (by omega) pne (.inr ⟨_, _, _, _, _, a3, by decide⟩)
        · rw [es]; exact b4
      · refine fin h3 (hx.trans x3) (by omega) p13 rfl ?_
        rw [es]
        show Bd lo h3 p3 (txt (T.take j) ++ [])
        rw [List.append_nil]; exact b3
    · have e : j = T.length := by have := of_decide_eq_false e; omega
      subst e
      rw [List.take_length] at hb
      refine c15 hb ?_
      rw [asI_k, ieqN, decide_eq_false (fun e => hT (List.length_eq_zero_iff.1 e))]
      refine cnd_f rfl ?_
      refine c16n hb hT (by omega) fun h4 f4 => ?_
      rw [asS_s, exB24, oK_some]
      have q4 : h4.at p1 = R24 := by rw [f4.2 p1 hp ne (.inr ⟨_, _, _, _, _, hp1, by decide⟩)]; exact hp1
      refine stn_i (c := 2) q4 (Nat.le_refl _) rfl (by decide) (by decide) ?_
      refine ldn_i (c := 2) (at_put_same _ _ _) (by decide) ?_
      rw [show getCells (tlist [S (txt T), .bool false] 0 (tlist [.str 0 0, .bool false] 0 .e)) 2 0 = [S (txt T), .bool false] from getCells_tlist [S (txt T), .bool false] _]
      have x4 := f4.exh hx e4 e3
      exact hk _ ⟨x4.1, fun c hc => by rw [at_put_o (fun e' => by subst e'; omega)]; exact x4.2 c hc⟩
end Go.Den
