/-
  A part of the proof: strings.Builder, with what is left beside it.
-/
import Derived.Test.YtdpnnajfmkpfjaaGreatDoorLex7
namespace Go.Den
open Go.RowKit
set_option maxRecDepth 100000
theorem rowL_cells {t : Tm} {l : List UInt8} : RowL 1 0 t (eb l) ↔ CellsAre t l := by
  constructor
  · intro h i hi
    have := (h i (by rw [eb_len]; exact hi)).2 0 (by rw [eb_get hi]; exact Nat.one_pos)
    simp only [eb_get hi, List.getElem_cons_zero] at this
    rw [← this]
    congr 1; omega
  · intro h i hi
    have hi' : i < l.length := by rw [eb_len] at hi; exact hi
    rw [eb_get hi']
    refine ⟨rfl, fun j hj => ?_⟩
    have hj : j = 0 := by simp at hj; exact hj
    subst hj
    show tget t (0 + i * 1 + 0) = ub l[i]
    rw [show 0 + i * 1 + 0 = i by omega]; exact h i hi'
theorem appB {lo : Nat} {h : H} {v x : AV} {l m : List UInt8} (hb : BufN TB 1 lo h v (eb l)) (hx : cellsOfArg h 1 x = some (m.length, ubs m)) (hl : l.length + m.length ≤ 1099511627776) (hlo : lo ≤ h.next.nat) :
    ∃ v' h', exAppend (some false) v x h TB ei8 = some (v', h') ∧ BufN TB 1 lo h' v' (eb (l ++ m)) ∧ Kp TB lo h h' := by
  have hlen : lenOfS v = l.length := by rcases hb with ⟨rfl, e⟩ | ⟨_, _, _, _, _, rfl, _⟩
                                        · have := congrArg List.length e; rw [eb_len] at this; rw [this]; rfl
                                        · exact eb_len l
  have hok : okSlice v = true := by rcases hb with ⟨rfl, _⟩ | ⟨_, _, _, _, _, rfl, _⟩ <;> rfl
  have e0 : exAppend (some false) v x h TB ei8 = (Bool.rec (appTo TB 1 v m.length (ubs m) h) (some (v, h)) (Nat.beq m.length 0) : Option (AV × H)) := by
    show (Option.rec none (fun p => Bool.rec none (Bool.rec (appTo TB 1 v p.1 p.2 h) (some (v, h)) (Nat.beq p.1 0)) (band (okSlice v) (fitsMem ei8 (Nat.add (lenOfS v) p.1)))) (cellsOfArg h 1 x) : Option (AV × H)) = _
    rw [hx]
    show (Bool.rec none (Bool.rec (appTo TB 1 v m.length (ubs m) h) (some (v, h)) (Nat.beq m.length 0)) (band (okSlice v) (fitsMem ei8 (Nat.add (lenOfS v) m.length))) : Option (AV × H)) = _
    rw [hlen, hok, show fitsMem ei8 (Nat.add l.length m.length) = true from fits8 hl]; rfl
  rw [e0]
  by_cases hm : m = []
  · subst hm
    exact ⟨v, h, rfl, by rw [List.append_nil]; exact hb, Kp.refl⟩
  have h0 : Nat.beq m.length 0 = false := by
    cases m with
    | nil => exact absurd rfl hm
    | cons _ _ => rfl
  rw [h0]
  rcases hb with ⟨rfl, e⟩ | ⟨q, t, n, z, w, rfl, h1, h2, h3, h4, h5, h6⟩
  · have : l = [] := by
      have := congrArg List.length e; rw [eb_len] at this; exact List.length_eq_zero_iff.1 this
    subst this
    refine ⟨.slice h.next 0 m.length 1 false, h.new (.row (tlist (ubs m) 0 .e) (Nat.mul m.length 1) 0 TB false), rfl, .inr ⟨h.next, tlist (ubs m) 0 .e, Nat.mul m.length 1, 0, false, by rw [eb_len]; rfl, hlo, by rw [next_new]; omega, at_new_same _ _, ?_, Nat.zero_le _, rowL_cells.2 (CellsAre.new _ _)⟩, Kp.new⟩
    rw [eb_len]; exact Nat.le_refl _
  · rw [eb_len] at h4 h5 ⊢
    have h6 := rowL_cells.1 h6
    have e1 : appTo TB 1 (.slice q 0 l.length 1 false) m.length (ubs m) h = appRow TB q 0 l.length m.length 1 (ubs m) h (asRow (h.at q)) := rfl
    show ∃ v' h', appTo TB 1 (.slice q 0 l.length 1 false) m.length (ubs m) h = some (v', h') ∧ _
    rw [e1, h3]
    show ∃ v' h', (Bool.rec none (some (.slice h.next 0 (Nat.add l.length m.length) 1 false, (h.put q .dead).new (.row (tlist (ubs m) (Nat.add 0 (Nat.mul l.length 1)) t) (Nat.add 0 (Nat.mul (Nat.add l.length m.length) 1)) z TB false))) (band (band (Nat.beq TB TB) (Nat.beq 0 0)) (band (Nat.ble (Nat.add 0 (Nat.mul l.length 1)) n) (Nat.ble z (Nat.add 0 (Nat.mul l.length 1))))) : Option (AV × H)) = some (v', h') ∧ _
    have a1 : Nat.add 0 (Nat.mul l.length 1) = l.length := by show 0 + l.length * 1 = _; omega
    have a2 : Nat.add 0 (Nat.mul (Nat.add l.length m.length) 1) = (l ++ m).length := by rw [List.length_append]; show 0 + (l.length + m.length) * 1 = _; omega
    have a3 : Nat.add l.length m.length = (l ++ m).length := by rw [List.length_append]; rfl
    rw [a1, a2, a3, Nat.ble_eq_true_of_le (show l.length ≤ n by omega), Nat.ble_eq_true_of_le (show z ≤ l.length by omega)]
    refine ⟨_, _, rfl, .inr ⟨h.next, _, _, z, false, by rw [eb_len], hlo, ?_, at_new_same (h.put q .dead) _, by rw [eb_len]; omega, by rw [eb_len, List.length_append]; omega, rowL_cells.2 h6.app⟩, ?_, fun c hc hh => ?_⟩
    · show h.next.nat < (P.succ h.next).nat
      rw [P.nat_succ]; omega
    · show h.next.nat ≤ (P.succ h.next).nat
      rw [P.nat_succ]; omega
    · have hcq : c ≠ q := fun e' => by
        subst e'
        rcases hh with hh | ⟨t', m', z', e', w', hr, hne⟩
        · omega
        · rw [h3] at hr; cases hr; exact hne rfl
      rw [at_new_o (show c.nat < (h.put q .dead).next.nat from hc), at_put_o hcq]
/-- a strings.Builder that holds those bytes -/
def Bd (lo : Nat) (h : H) (b : P) (l : List UInt8) : Prop := ∃ t, h.at b = .row t 2 0 39 true ∧ b.nat < h.next.nat ∧ lo ≤ h.next.nat ∧ (tget t 0 = .nilp ∨ tget t 0 = .ptr b 0) ∧ BufN TB 1 lo h (tget t 1) (eb l)
theorem Bd.new {lo : Nat} {h : H} (hl : lo ≤ h.next.nat) : Bd lo (h.new ob39) h.next [] :=
  ⟨tlist [.nilp, .nils] 0 .e, at_new_same _ _, by rw [next_new]; omega, by rw [next_new]; omega, .inl (by kernel_rfl), .inl ⟨by kernel_rfl, rfl⟩⟩
/-- what is left beside a Builder -/
def FB (b : P) (lo : Nat) (h h' : H) : Prop := h.next.nat ≤ h'.next.nat ∧ ∀ c, c.nat < h.next.nat → c ≠ b → (c.nat < lo ∨ ∃ t m z e w, h.at c = .row t m z e w ∧ e ≠ TB) → h'.at c = h.at c
theorem FB.exh {b : P} {lo : Nat} {hE h h' : H} (x : Exh hE h) (hl : hE.next.nat ≤ lo) (hb : hE.next.nat ≤ b.nat) (f : FB b lo h h') : Exh hE h' :=
  ⟨Nat.le_trans x.1 f.1, fun c hc => by rw [f.2 c (Nat.lt_of_lt_of_le hc x.1) (fun e => by subst e; omega) (.inl (by omega)), x.2 c hc]⟩
theorem Bd.fin {lo : Nat} {h0 h1 h2 : H} {b : P} {t t1 : Tm} {l : List UInt8} {v : AV} {k : H → Prop} (ha : h0.at b = .row t 2 0 39 true) (hn0 : b.nat < h0.next.nat) (n1 : h1.next = h0.next) (f1 : ∀ c, c ≠ b → h1.at c = h0.at c) (a1 : h1.at b = .row t1 2 0 39 true) (p1 : tget t1 0 = .ptr b 0) (hlo : lo ≤ h0.next.nat)
    (k1 : Kp TB lo h1 h2) (hb : BufN TB 1 lo h2 v (eb l)) (hk : ∀ h', Bd lo h' b l → FB b lo h0 h' → k h') : st1 (.ptr b 1) v h2 k := by
  have a2 : h2.at b = .row t1 2 0 39 true := by rw [k1.2 b (by rw [n1]; exact hn0) (.inr ⟨_, _, _, _, _, a1, by decide⟩)]; exact a1
  refine st1_i a2 (Nat.zero_le _) (by decide) hb.one ?_
  have hk1 := k1.1
  rw [n1] at hk1
  refine hk _ ⟨_, at_put_same _ _ _, by rw [next_put]; omega, by rw [next_put]; omega, .inr (by rw [tget_tlist]; simp [p1]), ?_⟩ ⟨hk1, fun c hc hne hh => ?_⟩
  · have : tget (tlist [v] 1 t1) 1 = v := by rw [tget_tlist]; simp
    rw [this]
    exact hb.frame (Nat.le_refl _) fun c hc _ tt m z w hr => at_put_o fun e' => by subst e'; rw [a2] at hr; cases hr
  · rw [at_put_o hne, k1.2 c (by rw [n1]; exact hc) (by rw [f1 c hne]; exact hh), f1 c hne]
theorem c13n {lo : Nat} {h : H} {b : P} {l : List UInt8} {x : UInt8} {k : KV} (hb : Bd lo h b l) (hl : l.length + 1 ≤ 1099511627776) (hk : ∀ h', Bd lo h' b (l ++ [x]) → FB b lo h h' → k .nili h') : W1 (.func 13) [.ptr b 0, .int .u8 (Int.ofNat x.toNat)] h k := by
  obtain ⟨t, ha, hn, hlo, h0, hbuf⟩ := hb
  refine w13 (n := 1) sw_ok (g13 ?_)
  unfold s13_0
  refine c24 ha h0 fun h1 t1 a1 p1 q1 n1 f1 => ?_
  rw [exNil_p, oK_some, fAddr_1]
  refine ld1_i a1 (by decide) ?_
  rw [q1]
  have b1 : BufN TB 1 lo h1 (tget t 1) (eb l) := hbuf.frame (by rw [n1]; exact Nat.le_refl _) fun c hc _ tt m z w hr => f1 c fun e' => by subst e'; rw [ha] at hr; cases hr
  refine app_byte b1 hl (by rw [n1]; exact hlo) fun v2 h2 b2 k2 => ?_
  rw [exNil_p, oK_some, fAddr_1]
  exact Bd.fin ha hn n1 f1 a1 p1 hlo k2 b2 hk
theorem c14n {lo : Nat} {h : H} {b : P} {l m : List UInt8} {k : KV} (hb : Bd lo h b l) (hl : l.length + m.length ≤ 1099511627776) (hk : ∀ v h', Bd lo h' b (l ++ m) → FB b lo h h' → k v h') : W1 (.func 14) [.ptr b 0, S m] h k := by
  obtain ⟨t, ha, hn, hlo, h0, hbuf⟩ := hb
  refine w14 (n := 1) sw_ok (g14 ?_)
  unfold s14_0
  refine c24 ha h0 fun h1 t1 a1 p1 q1 n1 f1 => ?_
  rw [exNil_p, oK_some, fAddr_1]
  refine ld1_i a1 (by decide) ?_
  rw [q1]
  have b1 : BufN TB 1 lo h1 (tget t 1) (eb l) := hbuf.frame (by rw [n1]; exact Nat.le_refl _) fun c hc _ tt m z w hr => f1 c fun e' => by subst e'; rw [ha] at hr; cases hr
  obtain ⟨v2, h2, e2, b2, k2⟩ := appB b1 (cells_str h1 m) hl (by rw [n1]; exact hlo)
  rw [app9, e2, oK_some, exNil_p, oK_some, fAddr_1]
  exact Bd.fin ha hn n1 f1 a1 p1 hlo k2 b2 fun h' => hk _ h'
theorem c15 {lo : Nat} {h : H} {b : P} {l : List UInt8} {k : KV} (hb : Bd lo h b l) (hk : k (.int .i64 (Int.ofNat l.length)) h) : W1 (.func 15) [.ptr b 0] h k := by
  obtain ⟨t, ha, hn, hlo, h0, hbuf⟩ := hb
  refine w15 (n := 1) sw_ok (g15 ?_)
  unfold s15_0
  rw [exNil_p, oK_some, fAddr_1]
  refine ld1_i ha (by decide) ?_
  rw [hbuf.len, eb_len]; exact hk
theorem c16n {lo : Nat} {h : H} {b : P} {l : List UInt8} {k : KV} (hb : Bd lo h b l) (hne : l ≠ []) (hl : l.length ≤ 1099511627776) (hk : ∀ h', FB b lo h h' → k (S l) h') : W1 (.func 16) [.ptr b 0] h k := by
  obtain ⟨t, ha, hn, hlo, h0, hbuf⟩ := hb
  refine w16 (n := 1) sw_ok (g16 ?_)
  unfold s16_0
  rw [exNil_p, oK_some, fAddr_1]
  refine ld1_i ha (by decide) ?_
  rcases hbuf with ⟨e, e2⟩ | ⟨q, t1, m, z, w, e, h1, h2, h3, h4, h5, h6⟩
  · have : l = [] := by
      have := congrArg List.length e2; rw [eb_len] at this; exact List.length_eq_zero_iff.1 this
    exact absurd this hne
  · rw [eb_len] at e h4 h5
    have h6 := rowL_cells.1 h6
    have hpos : l.length = (l.length - 1) + 1 := by
      cases l with
      | nil => exact absurd rfl hne
      | cons _ _ => simp
    have e1 : (biSliceData (.slice q 0 l.length 1 false) h : Option (AV × H)) = some (.ptr q 0, h) := by rw [hpos]; rfl
    rw [e, sd37, e1, oK_some, exNil_p, oK_some, fAddr_1]
    refine ld1_i ha (by decide) ?_
    rw [e, lenV_sl, us76]
    have e2 : biString env (.ptr q 0) (natOf (.int .i64 (Int.ofNat l.length))) h = (Bool.rec (usRow env q 0 l.length h (asRow (h.at q))) (some (.str 0 0, h)) (Nat.beq l.length 0) : Option (AV × H)) := rfl
    have e3 : Nat.beq l.length 0 = false := by rw [hpos]; rfl
    rw [e2, e3, h3]
    show oK (Bool.rec none (strAns (h.put q (.row t1 m (Nat.add m 1) TB w)) (cellBytes (getCells t1 l.length 0))) (band (isByte env TB) (band (Nat.ble (Nat.add 0 l.length) m) (Nat.ble l.length (intMax .i64)))) : Option (AV × H)) _
    rw [isB, Nat.ble_eq_true_of_le (show Nat.add 0 l.length ≤ m by show 0 + l.length ≤ m; omega), Nat.ble_eq_true_of_le (show l.length ≤ intMax .i64 by show _ ≤ 9223372036854775807; omega), h6.get, cells_u8]
    show oK (some (strOf (l.map (·.toNat)), h.put q (.row t1 m (Nat.add m 1) TB w)) : Option (AV × H)) _
    rw [str_u8, oK_some]
    refine hk _ ⟨Nat.le_refl _, fun c hc hne' hh => at_put_o fun e' => ?_⟩
    subst e'
    rcases hh with hh | ⟨t', m', z', e', w', hr, hn'⟩
    · omega
    · rw [h3] at hr; cases hr; exact hn' rfl
end Go.Den
