/-
  A part of the proof: a text's tokens, and the name that they are.
-/
import Derived.Test.YtdpnnajfmkpfjaaGreatDoorLex9
namespace Go.Den
open Go.RowKit
set_option maxRecDepth 100000
/-- between angles -/
theorem c6_angle {h : H} {v : AV} {t0 tn : Tok} {T : List Tok} {k : KV} (hr : Rd 8 h v (tks (t0 :: (T ++ [tn])))) (k0 : t0.kind = 5) (x0 : t0.text = [60]) (kn : tn.kind = 5) (xn : tn.text = [62]) (hT : txt T ≠ []) (hl : (txt T).length ≤ 1000000) (hlT : T.length ≤ 999990)
    (hk : ∀ h', Exh h h' → k (.tuple [.agg [S (txt T), .bool false], .bool true]) h') : W1 (.func 6) [v] h k := by
  have hpos : 0 < T.length := by
    cases T with
    | nil => exact absurd rfl hT
    | cons _ _ => exact Nat.succ_pos _
  have hlen : (t0 :: (T ++ [tn])).length = T.length + 2 := by simp
  refine w6 (n := 2 * T.length + 4) sw_ok (g6 ?_)
  unfold s6_0
  refine newK_i ?_
  refine newK_i ?_
  have y4 : Exh h ((h.new ob24).new ob39) := Exh.new.trans Exh.new
  have b4 : Bd (h.new ob24).next.nat ((h.new ob24).new ob39) (h.new ob24).next [] := Bd.new (Nat.le_refl _)
  have p4 : ((h.new ob24).new ob39).at h.next = R24 := by rw [at_new_o (by rw [next_new]; omega)]; exact at_new_same _ _
  have n1 : (h.new ob24).next.nat = h.next.nat + 1 := next_new
  have n4 : ((h.new ob24).new ob39).next.nat = h.next.nat + 2 := by rw [next_new, n1]
  generalize ((h.new ob24).new ob39) = h4 at *
  generalize (h.new ob24).next = p3 at *
  have hr4 := hr.ext y4
  rw [hr.tlen, hlen, isubN (by omega), wrapN (by omega), fI_eq]
  refine c11_no hr4 (by omega) ?_
  rw [ext_0, asS_s, ext_1, asB_b]
  refine cnd_f rfl ?_
  rw [show T.length + 2 - 1 = T.length + 1 by omega, ilt, decide_eq_false (by omega)]
  refine or_i (fun _ => ?_) (fun e => nomatch e)
  refine hr4.tok (i := 0) (by omega) ?_
  refine c12 (x := t0) (s := [60]) fun h5 x5 => ?_
  rw [asB_b, k0, x0]
  refine or_i (fun _ => ?_) (fun e => nomatch e)
  rw [natI_eq]
  have hr5 := hr4.ext x5
  have il : T.length + 1 < (t0 :: (T ++ [tn])).length := by omega
  have el : (t0 :: (T ++ [tn]))[T.length + 1] = tn := by
    rw [List.getElem_cons_succ, List.getElem_append_right (Nat.le_refl _)]; simp
  refine hr5.tok il ?_
  rw [el]
  refine c12 (x := tn) (s := [62]) fun h6 x6 => ?_
  rw [asB_b, kn, xn]
  refine cnd_f rfl ?_
  refine Rd.cut8' (lo := 1) (hi := T.length + 1) hr (by omega) (by omega) fun v44 r44 => ?_
  have ec : ((t0 :: (T ++ [tn])).drop 1).take (T.length + 1 - 1) = T := by
    show (T ++ [tn]).take (T.length + 1 - 1) = T
    rw [show T.length + 1 - 1 = T.length by omega, List.take_left']; rfl
  rw [ec] at r44
  rw [r44.tlen]
  have x46 := x5.trans x6
  refine c6_1 (lo := p3.nat) r44 (Nat.le_refl _) (by omega) (by omega) (fun e => by rw [e] at n1; omega) hT hl (by omega) hk _ 0 (by omega) (Nat.zero_le _) (y4.trans x46) (by have := x46.1; omega) ?_ (b4.ext x46)
  rw [x46.2 _ (by omega)]; exact p4
theorem c6_ret {h : H} {p1 : P} {a b : AV} {β : Bool} {K : AV → H → Prop} (hp : h.at p1 = R24) (hk : K (.tuple [.agg [a, b], .bool β]) (h.put p1 (.row (tlist [a, b] 0 (tlist [.str 0 0, .bool false] 0 .e)) 2 0 24 true))) : stn 2 (.ptr p1 0) (.agg [a, b]) h fun h' => ldn 2 (.ptr p1 0) h' fun v => K (.tuple [v, .bool β]) h' := by
  refine stn_i (c := 2) hp (Nat.le_refl _) rfl (by decide) (by decide) ?_
  refine ldn_i (c := 2) (at_put_same _ _ _) (by decide) ?_
  rw [show getCells (tlist [a, b] 0 (tlist [.str 0 0, .bool false] 0 .e)) 2 0 = [a, b] from getCells_tlist [a, b] _]
  exact hk
theorem put_exh {hE h : H} {p : P} {o : Ob FT} (x : Exh hE h) (hp : hE.next.nat ≤ p.nat) : Exh hE (h.put p o) := ⟨x.1, fun c hc => by rw [at_put_o (fun e' => by subst e'; omega)]; exact x.2 c hc⟩
/-- in quotes -/
theorem c6_str {h : H} {v : AV} {x : Tok} {s : List UInt8} {k : KV} (hr : Rd 8 h v (tks [x])) (hx : x.kind = 4) (ht : x.text = 34 :: (s ++ [34])) (hs : s ≠ []) (hl : s.length ≤ 999990)
    (hk : ∀ h', Exh h h' → k (.tuple [.agg [S s, .bool true], .bool true]) h') : W1 (.func 6) [v] h k := by
  refine w6 (n := 1) sw_ok (g6 ?_)
  unfold s6_0
  refine newK_i ?_
  refine newK_i ?_
  have y4 : Exh h ((h.new ob24).new ob39) := Exh.new.trans Exh.new
  have p4 : ((h.new ob24).new ob39).at h.next = R24 := by rw [at_new_o (by rw [next_new]; omega)]; exact at_new_same _ _
  generalize ((h.new ob24).new ob39) = h4 at *
  rw [hr.tlen]
  refine c11_1 (hr.ext y4) hx (by rw [ht]; simp; omega) ?_
  have e1 : cutP x.text [34] = (s ++ [34], true) := by rw [ht]; rfl
  have e2 : cutX (s ++ [34]) [34] = (s, true) := by
    unfold cutX
    rw [if_pos (by constructor; simp; rw [List.length_append]; show List.drop (s.length + 1 - 1) _ = _; rw [Nat.add_sub_cancel, List.drop_left']; rfl)]
    rw [List.length_append]
    show (List.take (s.length + 1 - 1) _, true) = _
    rw [Nat.add_sub_cancel, List.take_left']; rfl
  rw [e1, e2]
  rw [ext_0, asS_s, ext_1, asB_b]
  refine cnd_t rfl ?_
  rw [show strEq s.length (enc s) 0 0 = decide (s = []) from strEq_enc (t := []), decide_eq_false hs]
  refine cnd_f rfl ?_
  rw [exB24, oK_some]
  refine c6_ret p4 ?_
  exact hk _ (put_exh y4 (Nat.le_refl _))
/-- no name: one token that is none, or the last one is no angle -/
theorem c6_no1 {h : H} {v : AV} {x : Tok} {k : KV} (hr : Rd 8 h v (tks [x])) (hx : x.kind = 4) (hl : x.text.length ≤ 1000000) (ht : (cutP x.text [34]).2 = false)
    (hk : ∀ h', Exh h h' → k (.tuple [.agg [.str 0 0, .bool false], .bool false]) h') : W1 (.func 6) [v] h k := by
  refine w6 (n := 1) sw_ok (g6 ?_)
  unfold s6_0
  refine newK_i ?_
  refine newK_i ?_
  have y4 : Exh h ((h.new ob24).new ob39) := Exh.new.trans Exh.new
  have p4 : ((h.new ob24).new ob39).at h.next = R24 := by rw [at_new_o (by rw [next_new]; omega)]; exact at_new_same _ _
  generalize ((h.new ob24).new ob39) = h4 at *
  rw [hr.tlen]
  refine c11_1 (hr.ext y4) hx hl ?_
  rw [ht]
  rw [ext_0, asS_s, ext_1, asB_b]
  refine cnd_f rfl ?_
  refine or_i (fun e => nomatch e) (fun _ => ?_)
  refine or_i (fun e => nomatch e) (fun _ => ?_)
  refine cnd_t rfl ?_
  rw [exB24z, oK_some]
  refine c6_ret p4 ?_
  exact hk _ (put_exh y4 (Nat.le_refl _))
theorem c6_no2 {h : H} {v : AV} {t0 tn : Tok} {T : List Tok} {k : KV} (hr : Rd 8 h v (tks (t0 :: (T ++ [tn])))) (kn : tn.text ≠ [62]) (hlT : T.length ≤ 999990)
    (hk : ∀ h', Exh h h' → k (.tuple [.agg [.str 0 0, .bool false], .bool false]) h') : W1 (.func 6) [v] h k := by
  have hlen : (t0 :: (T ++ [tn])).length = T.length + 2 := by simp
  refine w6 (n := 1) sw_ok (g6 ?_)
  unfold s6_0
  refine newK_i ?_
  refine newK_i ?_
  have y4 : Exh h ((h.new ob24).new ob39) := Exh.new.trans Exh.new
  have p4 : ((h.new ob24).new ob39).at h.next = R24 := by rw [at_new_o (by rw [next_new]; omega)]; exact at_new_same _ _
  have n1 : (h.new ob24).next.nat = h.next.nat + 1 := next_new
  have n4 : ((h.new ob24).new ob39).next.nat = h.next.nat + 2 := by rw [next_new, n1]
  generalize ((h.new ob24).new ob39) = h4 at *
  have hr4 := hr.ext y4
  rw [hr.tlen, hlen, isubN (by omega), wrapN (by omega), fI_eq]
  refine c11_no hr4 (by omega) ?_
  rw [ext_0, asS_s, ext_1, asB_b]
  refine cnd_f rfl ?_
  rw [show T.length + 2 - 1 = T.length + 1 by omega]
  -- no angle, in the end
  have fin : ∀ h6, Exh h4 h6 → (oK (exBuild env (env.ty 24) [] h6) fun v39 h40 => stn 2 (.ptr h.next 0) v39 h40 fun h41 => ldn 2 (.ptr h.next 0) h41 fun v42 => k (.tuple [v42, .bool false]) h41) := fun h6 x6 => by
    rw [exB24z, oK_some]
    refine c6_ret (by rw [x6.2 _ (by omega)]; exact p4) ?_
    exact hk _ (put_exh (y4.trans x6) (Nat.le_refl _))
  have il : T.length + 1 < (t0 :: (T ++ [tn])).length := by omega
  have el : (t0 :: (T ++ [tn]))[T.length + 1] = tn := by
    rw [List.getElem_cons_succ, List.getElem_append_right (Nat.le_refl _)]; simp
  rw [ilt]
  refine or_i (fun _ => ?_) (fun _ => ?_)
  · refine hr4.tok (i := 0) (by omega) ?_
    refine c12 (x := t0) (s := [60]) fun h5 x5 => ?_
    rw [asB_b]
    refine or_i (fun _ => ?_) (fun _ => ?_)
    · rw [natI_eq]
      refine (hr4.ext x5).tok il ?_
      rw [el]
      refine c12 (x := tn) (s := [62]) fun h6 x6 => ?_
      rw [asB_b, decide_eq_false kn, Bool.and_false]
      refine cnd_t rfl ?_
      exact fin h6 (x5.trans x6)
    · refine cnd_t rfl ?_
      exact fin h5 x5
  · refine or_i (fun e => nomatch e) (fun _ => ?_)
    refine cnd_t rfl ?_
    exact fin h4 Exh.refl
/-- the lines of a text -/
theorem c17 {h : H} {s : List UInt8} {Q : List Tok → Prop} {k : KV} (h0 : s ≠ []) (hs : ∀ x ∈ s, x ≠ 63 ∧ x ≠ 92 ∧ x ≠ 10) (hl : s.length ≤ 999990) (hx : Lx (s ++ [10]) Q 0 false [])
    (hk : ∀ h' q t w T, Q T → T.length ≤ s.length → Exh h h' → q.nat < h'.next.nat → h'.at q = .row t 4 0 60 w → BufN 47 8 0 h' (tget t 0) (tks T) → k (.tuple [.slice q 0 1 4 false, .nils]) h') : W1 (.func 17) [.str 1 102, S s] h k := by
  refine w17 (n := 3 * s.length + 20) sw_ok (g17 ?_)
  unfold s17_0
  refine c25 h0 hs (by omega) fun h2 vr x2 rs => ?_
  refine newK_i ?_
  have hBl : (s ++ [10]).length = s.length + 1 := by simp
  have ls : LS h2 (h2.new ob60) [] := by
    refine ⟨Exh.new, by rw [next_new]; omega, _, at_new_same _ _, .inl ⟨?_, rfl⟩⟩
    rw [tget_tlist]; rfl
  refine hx h2 vr s.length (enc s) k rs (by omega) (fun T' b' hQ => ?_) _ (h2.new ob60) (by rw [hBl]; omega) (Nat.zero_le _) ls
  intro n h3 hn hT ls3
  obtain ⟨n, rfl⟩ : ∃ m, n = m + 3 := ⟨n - 3, by omega⟩
  refine ln_end rs (by omega) (by omega) ?_ ls3 fun h' q t w x' hq ha hb => ?_
  · rw [hBl, Nat.add_sub_cancel, bt_lt (by omega), List.getElem_append_right (Nat.le_refl _)]; simp
  · refine hk h' q t w T' hQ (by omega) (x2.trans x') hq ha ?_
    rcases hb with e | ⟨q', t', m, z, w', e1, _, e2⟩
    · exact .inl e
    · exact .inr ⟨q', t', m, z, w', e1, Nat.zero_le _, e2⟩
/-- the tokens of a text -/
theorem c7 {h : H} {s : List UInt8} {Q : List Tok → Prop} {k : KV} (h0 : s ≠ []) (hs : ∀ x ∈ s, x ≠ 63 ∧ x ≠ 92 ∧ x ≠ 10) (hl : s.length ≤ 999990) (hx : Lx (s ++ [10]) Q 0 false []) (hQ : ∀ T, Q T → T ≠ [])
    (hk : ∀ h' v T, Q T → T.length ≤ s.length → Exh h h' → Rd 8 h' v (tks T) → k v h') : W1 (.func 7) [S s] h k := by
  refine w7 (n := 1) sw_ok (g7 ?_)
  unfold s7_0
  refine c17 h0 hs hl hx fun h' q t w T hQT hTl x' hq ha hb => ?_
  rw [ext_0, ext_1, lenV_sl]
  refine cnd_f rfl ?_
  refine elemA_i Nat.one_pos ?_
  rw [fAddr_i]
  refine ld1_i (o := 0 + 0 * 4 + 0) ha (by decide) ?_
  exact hk h' _ T hQT hTl x' (hb.rd fun e => hQ T hQT (by have := congrArg List.length e; rw [tks_len] at this; exact List.length_eq_zero_iff.1 this))
end Go.Den
