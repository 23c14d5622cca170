/-
  A part of the proof: which tokens a text has.
-/
import Derived.Test.YtdpnnajfmkpfjaaGreatDoorLex6
namespace Go.Den
open Go.RowKit
set_option maxRecDepth 100000
/-- the loop goes on from there -/
def GA (h2 : H) (vr : AV) (l1 c1 : Nat) (k : KV) (B : List UInt8) (i : Nat) (b : Bool) (T : List Tok) : Prop :=
  ∀ n h, 3 * (B.length - i) + 3 ≤ n → T.length ≤ i → LS h2 h T → (r17 W1 k n).a1 1 102 l1 c1 vr .nils .nils (.ptr h2.next 0) b (Int.ofNat i) h
/-- from there on, all tokens are told by Q -/
def Lx (B : List UInt8) (Q : List Tok → Prop) (i : Nat) (b : Bool) (T : List Tok) : Prop :=
  ∀ h2 vr l1 c1 k, Rs h2 vr B → B.length ≤ 1000000 → (∀ T' b', Q T' → GA h2 vr l1 c1 k B (B.length - 1) b' T') → GA h2 vr l1 c1 k B i b T
theorem Lx.ends {B : List UInt8} {Q : List Tok → Prop} {b : Bool} {T : List Tok} (h : Q T) : Lx B Q (B.length - 1) b T :=
  fun _ _ _ _ _ _ _ hk => hk T b h
theorem Lx.ws {B : List UInt8} {Q : List Tok → Prop} {i : Nat} {b : Bool} {T : List Tok} (hi : i < B.length) (h10 : B[i] ≠ 10) (hw : isWhite B[i] = true) (hk : Lx B Q (i + 1) true T) : Lx B Q i b T := by
  intro h2 vr l1 c1 k hr hl hq n h hn hT hs
  obtain ⟨n, rfl⟩ : ∃ m, n = m + 1 := ⟨n - 1, by omega⟩
  have hr' := hr.ext hs.1
  refine j17_1 ?_
  unfold s17_1
  rw [hr'.len, ilt, decide_eq_true hi]
  refine cnd_t rfl ?_
  rw [natI_eq]
  refine hr'.at0 hi ?_
  unfold ub
  rw [asI_k, ieqU _ 10 10 rfl, decide_eq_false h10]
  refine cnd_f rfl ?_
  rw [natI_eq]
  refine hr'.at0 hi ?_
  unfold ub
  rw [asI_k]
  refine use2 (c26 _) ?_
  rw [asB_b, hw]
  refine cnd_t rfl ?_
  rw [iaddN, wrapN (by omega), fI_eq]
  exact hk h2 vr l1 c1 k hr hl hq n h (by omega) (by omega) hs
theorem Lx.cc {B : List UInt8} {Q : List Tok → Prop} {i : Nat} {b : Bool} {T : List Tok} (hi : i + 3 < B.length) (h0 : B[i] = 47) (h1 : B[i + 1] = 42) (h2' : B[i + 2] = 42) (h3 : B[i + 3] = 47) (hk : Lx B Q (i + 4) true T) : Lx B Q i b T := by
  intro h2 vr l1 c1 k hr hl hq n h hn hT hs
  obtain ⟨n, rfl⟩ : ∃ m, n = m + 1 := ⟨n - 1, by omega⟩
  have hr' := hr.ext hs.1
  refine j17_1 ?_
  unfold s17_1
  rw [hr'.len, ilt, decide_eq_true (show i < B.length by omega)]
  refine cnd_t rfl ?_
  rw [natI_eq]
  refine hr'.at0 (show i < B.length by omega) ?_
  rw [h0]
  unfold ub
  rw [asI_k]
  refine cnd_f rfl ?_
  rw [natI_eq]
  refine hr'.at0 (show i < B.length by omega) ?_
  rw [h0]
  unfold ub
  rw [asI_k]
  refine use2 (c26 47) ?_
  rw [asB_b]
  refine cnd_f rfl ?_
  refine c27_cc hr' (by omega) hi h0 h1 h2' h3 ?_
  rw [ext_0, asI_k, ext_1, asB_b, ilt, decide_eq_true (show i < i + 4 by omega)]
  refine cnd_t rfl ?_
  refine cnd_f rfl ?_
  exact hk h2 vr l1 c1 k hr hl hq n h (by omega) (by omega) hs
theorem ext_2 {a b c : AV} {l : List AV} {K : AV → Prop} : ext 2 (.tuple (a :: b :: c :: l)) K = K c := rfl
/-- a token, as next tells of it -/
theorem Lx.tok {B : List UInt8} {Q : List Tok → Prop} {i : Nat} {b : Bool} {T : List Tok} {C : Nat → Nat → Prop} (hi : i < B.length) (h10 : B[i] ≠ 10) (hw : isWhite B[i] = false) (hc : bt B i ≠ 47 ∨ (bt B (i + 1) ≠ 47 ∧ bt B (i + 1) ≠ 42))
    (hN : ∀ h vr (k : KV), Rs h vr B → B.length ≤ 1000000 → (∀ kd e h', C kd e → Exh h h' → k (.tuple [.int .i64 (Int.ofNat kd), .int .i64 (Int.ofNat e), .bool false]) h') → W1 (.func 28) [vr, .int .i64 (Int.ofNat i)] h k)
    (hC : ∀ kd e, C kd e → i < e ∧ e ≤ B.length)
    (hk : ∀ kd e f t, C kd e → Lx B Q e false (T ++ [⟨kd, (B.drop i).take (e - i), b, f, t⟩])) : Lx B Q i b T := by
  intro h2 vr l1 c1 k hr hl hq n h hn hT hs
  obtain ⟨n, rfl⟩ : ∃ m, n = m + 3 := ⟨n - 3, by omega⟩
  have hr' := hr.ext hs.1
  refine j17_1 ?_
  unfold s17_1
  rw [hr'.len, ilt, decide_eq_true hi]
  refine cnd_t rfl ?_
  rw [natI_eq]
  refine hr'.at0 hi ?_
  unfold ub
  rw [asI_k, ieqU _ 10 10 rfl, decide_eq_false h10]
  refine cnd_f rfl ?_
  rw [natI_eq]
  refine hr'.at0 hi ?_
  unfold ub
  rw [asI_k]
  refine use2 (c26 _) ?_
  rw [asB_b, hw]
  refine cnd_f rfl ?_
  refine c27_no hr' (by omega) hc ?_
  rw [ext_0, asI_k, ext_1, asB_b, ilt, decide_eq_false (Nat.lt_irrefl i)]
  refine cnd_f rfl ?_
  refine hN h vr _ hr' hl fun kd e h' hC' hx => ?_
  obtain ⟨e1, e2⟩ := hC kd e hC'
  rw [ext_0, asI_k, ext_1, asI_k, ext_2, asB_b]
  have hs' : LS h2 h' T := by
    obtain ⟨y1, y2, t, y3, y4⟩ := hs
    exact ⟨y1.trans hx, by have := hx.1; omega, t, by rw [hx.2 _ y2]; exact y3, y4.ext hx⟩
  refine ln_tok hr hl (by omega) hs' e1 e2 fun f t h'' hs'' => ?_
  exact hk kd e f t hC' h2 vr l1 c1 k hr hl hq n h'' (by omega) (by rw [List.length_append, List.length_singleton]; omega) hs''
theorem bt_of {B : List UInt8} {i : Nat} (hi : i < B.length) : B[i] = bt B i := (bt_lt hi).symm
theorem Lx.p {B : List UInt8} {Q : List Tok → Prop} {i : Nat} {b : Bool} {T : List Tok} (hi : i < B.length) (hl : B.length ≤ 1000000) (hx : bt B i = 60 ∨ bt B i = 62) (hj : joinOk (bt B i) (bt B (i + 1)) = true) (hk : ∀ f t, Lx B Q (i + 1) false (T ++ [⟨5, [bt B i], b, f, t⟩])) : Lx B Q i b T := by
  have e0 : B[i] = bt B i := bt_of hi
  refine Lx.tok (C := fun kd e => kd = 5 ∧ e = i + 1) hi ?_ ?_ ?_ (fun h vr k hr hl' hk' => ?_) (fun kd e h => by obtain ⟨_, rfl⟩ := h; omega) (fun kd e f t h => ?_)
  · rw [e0]; rcases hx with e | e <;> (rw [e]; decide)
  · rw [e0]; rcases hx with e | e <;> (rw [e]; decide)
  · left; rcases hx with e | e <;> (rw [e]; decide)
  · exact c28_p hr (by omega) hx hj fun h' hx' => hk' 5 (i + 1) h' ⟨rfl, rfl⟩ hx'
  · obtain ⟨rfl, rfl⟩ := h
    have : (B.drop i).take (i + 1 - i) = [bt B i] := by
      rw [List.drop_eq_getElem_cons hi, show i + 1 - i = 1 by omega, e0]; rfl
    rw [this]; exact hk f t
/-- what tokens' texts make, with blanks where there was space -/
def txt (T : List Tok) : List UInt8 := T.flatMap fun x => (if x.space = true then [32] else []) ++ x.text
theorem txt_app (A C : List Tok) : txt (A ++ C) = txt A ++ txt C := by unfold txt; rw [List.flatMap_append]
def sp (b : Bool) : List UInt8 := if b = true then [32] else []
theorem Lx.seg {B : List UInt8} {Q : List Tok → Prop} {m : Nat} (hl : B.length ≤ 1000000) : ∀ (d i : Nat) {b : Bool} {T : List Tok}, m - i ≤ d → Seg B i m → (∀ T', T' ≠ [] → txt T' = sp b ++ (B.drop i).take (m - i) → Lx B Q m false (T ++ T')) → Lx B Q i b T
  | 0, i, _, _, hd, s, _ => absurd s.lt (by omega)
  | d + 1, i, b, T, hd, s, hk => by
    have hm := s.hm
    have hlt := s.lt
    have hi : i < B.length := by omega
    have hn := s.chars i hi (Nat.le_refl _) hlt
    refine Lx.tok (C := fun _ e => i < e ∧ e ≤ m) hi ?_ ?_ ?_ (fun h vr k hr hl' hk' => ?_) (fun kd e h => by omega) (fun kd e f t h => ?_)
    · intro e; rw [e] at hn; revert hn; decide
    · cases hw : isWhite B[i] with
      | false => rfl
      | true =>
        simp only [isWhite, Bool.or_eq_true, Bool.and_eq_true, decide_eq_true_eq] at hw
        simp only [nameC, isLetter, isDigit, Bool.or_eq_true, Bool.and_eq_true, decide_eq_true_eq, beq_iff_eq, ← UInt8.toNat_inj] at hn
        have e1 : (46 : UInt8).toNat = 46 := rfl
        have e2 : (45 : UInt8).toNat = 45 := rfl
        have e3 : (47 : UInt8).toNat = 47 := rfl
        omega
    · by_cases e : bt B i = 47
      · exact .inr (s.slash i (Nat.le_refl _) hlt e)
      · exact .inl e
    · exact c28_seg hr hl' s fun kd e h1 h2 h' hx => hk' kd e h' ⟨h1, h2⟩ hx
    · obtain ⟨h1, h2⟩ := h
      by_cases e' : e = m
      · subst e'
        refine hk _ (by simp) ?_
        unfold txt sp; simp
      · refine Lx.seg hl d e (by omega) ⟨by omega, hm, fun j hj a c => s.chars j hj (by omega) c, s.stop, s.join, fun j a c => s.slash j (by omega) c⟩ fun T' hT' ht => ?_
        rw [List.append_assoc]
        refine hk _ (by simp) ?_
        rw [List.singleton_append, show ∀ x : Tok, txt (x :: T') = txt [x] ++ txt T' from fun x => txt_app [x] T', ht]
        have e1 : txt [(⟨kd, (B.drop i).take (e - i), b, f, t⟩ : Tok)] = sp b ++ (B.drop i).take (e - i) := by unfold txt sp; simp
        have e2 : (B.drop i).take (m - i) = (B.drop i).take (e - i) ++ (B.drop e).take (m - e) := by
          rw [show m - i = (e - i) + (m - e) by omega, List.take_add, List.drop_drop, show i + (e - i) = e by omega]
        rw [e1, e2, List.append_assoc]
        show sp b ++ (_ ++ (sp false ++ _)) = _
        rfl
theorem Lx.q {B : List UInt8} {Q : List Tok → Prop} {i a m : Nat} {b : Bool} {T : List Tok} (hi : i + a < m) (hm : m < B.length) (h1 : lettersV B i = Int.ofNat a) (h0 : bt B i ≠ 10) (hw : isWhite (bt B i) = false) (hc0 : bt B i ≠ 47) (hb : bt B (i + a) = 34) (hq : bt B m = 34) (hc : ∀ x, i + a < x → x < m → bt B x ≠ 34 ∧ bt B x ≠ 10 ∧ bt B x ≠ 92)
    (hk : ∀ f t, Lx B Q (m + 1) false (T ++ [⟨4, (B.drop i).take (m + 1 - i), b, f, t⟩])) : Lx B Q i b T := by
  have hi' : i < B.length := by omega
  refine Lx.tok (C := fun kd e => kd = 4 ∧ e = m + 1) hi' (by rw [bt_of hi']; exact h0) (by rw [bt_of hi']; exact hw) (.inl hc0) (fun h vr k hr hl' hk' => ?_) (fun kd e h => by obtain ⟨_, rfl⟩ := h; omega) (fun kd e f t h => ?_)
  · refine c28_q (a := a) (m := m) hr hl' hi hm h1 (by rw [bt_of (by omega)]; exact hb) (by rw [bt_of hm]; exact hq) (fun x hx a1 a2 => by rw [bt_of hx]; exact hc x a1 a2) (hk' 4 (m + 1) h ⟨rfl, rfl⟩ Exh.refl)
  · obtain ⟨rfl, rfl⟩ := h
    exact hk f t
theorem Lx.d {B : List UInt8} {Q : List Tok → Prop} {i m : Nat} {b : Bool} {T : List Tok} (hi : i < m) (hm : m < B.length) (hd : ∀ x, i ≤ x → x < m → isDigit (bt B x) = true) (hs : stopN (bt B m) = true)
    (hk : ∀ f t, Lx B Q m false (T ++ [⟨2, (B.drop i).take (m - i), b, f, t⟩])) : Lx B Q i b T := by
  have hi' : i < B.length := by omega
  have h0 := hd i (Nat.le_refl _) hi
  have k0 : ∀ x : UInt8, isDigit x = true → x ≠ 10 ∧ isWhite x = false ∧ x ≠ 47 := fun x hx => by
    refine ⟨?_, ?_, ?_⟩
    · rintro rfl; revert hx; decide
    · simp only [isDigit, Bool.and_eq_true, decide_eq_true_eq] at hx
      simp only [isWhite, Bool.or_eq_false_iff, Bool.and_eq_false_iff, decide_eq_false_iff_not]
      omega
    · rintro rfl; revert hx; decide
  obtain ⟨k1, k2, k3⟩ := k0 _ h0
  refine Lx.tok (C := fun kd e => kd = 2 ∧ e = m) hi' (by rw [bt_of hi']; exact k1) (by rw [bt_of hi']; exact k2) (.inl k3) (fun h vr k hr hl' hk' => ?_) (fun kd e h => by obtain ⟨_, rfl⟩ := h; omega) (fun kd e f t h => ?_)
  · exact c28_d hr hl' hi hm (fun x hx a1 a2 => by rw [bt_of hx]; exact hd x a1 a2) hs (hk' 2 m h ⟨rfl, rfl⟩ Exh.refl)
  · obtain ⟨rfl, rfl⟩ := h
    exact hk f t
/-! ### The end of the line -/
theorem app_nil {e : TypeId} {sz : Nat} {ei : TI} {h : H} {x : AV} {ds : List AV} (hx : cellsOfArg h sz x = some (1, ds)) (hsz : ei.size = sz) (hf : fitsMem ei 1 = true) : exAppend (some false) .nils x h e ei = some (.slice h.next 0 1 sz false, h.new (.row (tlist ds 0 .e) (Nat.mul 1 sz) 0 e false)) := by
  show (Option.rec none (fun p => Bool.rec none (Bool.rec (appTo e ei.size .nils p.1 p.2 h) (some (.nils, h)) (Nat.beq p.1 0)) (band (okSlice .nils) (fitsMem ei (Nat.add (lenOfS .nils) p.1)))) (cellsOfArg h ei.size x) : Option (AV × H)) = _
  rw [hsz, hx]
  show (Bool.rec none (appTo e sz .nils 1 ds h) (fitsMem ei 1) : Option (AV × H)) = _
  rw [hf]; rfl
theorem ln_end {h2 h : H} {vr : AV} {B : List UInt8} {T : List Tok} {l1 c1 n : Nat} {b : Bool} {k : KV} (hB : Rs h2 vr B) (hl : B.length ≤ 1000000) (h0 : 0 < B.length) (h10 : bt B (B.length - 1) = 10) (hs : LS h2 h T)
    (hk : ∀ h' q t w, Exh h2 h' → q.nat < h'.next.nat → h'.at q = .row t 4 0 60 w → BufN 47 8 h2.next.nat h' (tget t 0) (T.map Tok.cells) → k (.tuple [.slice q 0 1 4 false, .nils]) h') :
    (r17 W1 k (n + 3)).a1 1 102 l1 c1 vr .nils .nils (.ptr h2.next 0) b (Int.ofNat (B.length - 1)) h := by
  obtain ⟨x0, hn, t, ht, hb⟩ := hs
  have hB' := hB
  obtain ⟨L, rr, hL⟩ := hB'
  have r := rr.ext x0
  have hi : B.length - 1 < B.length := by omega
  have i1 : B.length - 1 < L.length := by rw [hL.1]; omega
  obtain ⟨f1, t1, _, _, hc1⟩ := hL.2 (B.length - 1) hi i1
  refine j17_1 ?_
  unfold s17_1
  rw [(hB.ext x0).len, ilt, decide_eq_true hi]
  refine cnd_t rfl ?_
  rw [natI_eq]
  refine (hB.ext x0).at0 hi ?_
  rw [bt_of hi, h10]
  unfold ub
  rw [asI_k]
  refine cnd_t rfl ?_
  rw [natI_eq]
  refine r.fld (j := 2) i1 (by rw [hc1]; show 2 < 3; decide) ?_
  simp only [hc1, rn, List.getElem_cons_succ, List.getElem_cons_zero]
  rw [asI_k, fAddr_i]
  refine st1_i ht (Nat.zero_le _) (by decide) rfl ?_
  generalize hh3 : h.put h2.next (.row (tlist [.int .i64 (Int.ofNat t1)] (0 + 2) t) 4 0 60 true) = h3
  have a3 : h3.at h2.next = .row (tlist [.int .i64 (Int.ofNat t1)] (0 + 2) t) 4 0 60 true := by subst hh3; exact at_put_same _ _ _
  have n3 : h3.next = h.next := by subst hh3; rfl
  have f3 : ∀ c, c ≠ h2.next → h3.at c = h.at c := fun c hc => by subst hh3; exact at_put_o hc
  have e0 : tget (tlist [.int .i64 (Int.ofNat t1)] (0 + 2) t) 0 = tget t 0 := by rw [tget_tlist]; simp
  have b3 : BufN 47 8 h2.next.nat h3 (tget t 0) (T.map Tok.cells) := hb.frame (by rw [n3]; exact Nat.le_refl _) fun c hc _ tt m z w ha => f3 c fun e' => by subst e'; rw [ht] at ha; cases ha
  refine ldn_i (c := 4) a3 (by decide) ?_
  have hg : getCells (tlist [.int .i64 (Int.ofNat t1)] (0 + 2) t) 4 0 = [tget t 0, tget (tlist [.int .i64 (Int.ofNat t1)] (0 + 2) t) 1, tget (tlist [.int .i64 (Int.ofNat t1)] (0 + 2) t) 2, tget (tlist [.int .i64 (Int.ofNat t1)] (0 + 2) t) 3] := by
    rw [← e0]; rfl
  rw [hg, bld60, oK_some, app55]
  rw [app_nil (sz := 4) (one_new rfl) sz60 (fits60 (by decide)), oK_some]
  generalize hR1 : (Ob.row (tlist [tget t 0, tget (tlist [.int .i64 (Int.ofNat t1)] (0 + 2) t) 1, tget (tlist [.int .i64 (Int.ofNat t1)] (0 + 2) t) 2, tget (tlist [.int .i64 (Int.ofNat t1)] (0 + 2) t) 3] 0 Z60) 4 0 60 true : Ob FT) = R1
  generalize hR2 : tlist [tget t 0, tget (tlist [.int .i64 (Int.ofNat t1)] (0 + 2) t) 1, tget (tlist [.int .i64 (Int.ofNat t1)] (0 + 2) t) 2, tget (tlist [.int .i64 (Int.ofNat t1)] (0 + 2) t) 3] 0 .e = R2
  have e2 : tget R2 0 = tget t 0 := by subst hR2; rw [tget_tlist]; simp
  generalize hh5 : (h3.new R1).new (.row R2 (Nat.mul 1 4) 0 60 false) = h5
  have x5 : Exh h3 h5 := by subst hh5; exact Exh.new.trans Exh.new
  have q1 : (h3.new R1).next.nat < h5.next.nat := by subst hh5; exact Nat.lt_of_lt_of_eq (Nat.lt_succ_self _) next_new.symm
  have q0 : h3.next.nat < (h3.new R1).next.nat := by rw [next_new]; omega
  have a5 : h5.at (h3.new R1).next = .row R2 4 0 60 false := by subst hh5; exact at_new_same _ _
  generalize (h3.new R1).next = q at *
  have hn3 : h2.next.nat < h3.next.nat := by rw [n3]; exact hn
  have hne : q ≠ h2.next := fun e' => by subst e'; omega
  have y5 : Exh h2 h5 := by
    refine ⟨Nat.le_trans (Nat.le_of_lt hn3) x5.1, fun c hc => ?_⟩
    rw [x5.2 c (by omega), f3 c (fun e' => by subst e'; exact absurd hc (Nat.lt_irrefl _)), x0.2 c hc]
  have r5 : Rd 3 h5 vr L := rr.ext y5
  have b5 : BufN 47 8 h2.next.nat h5 (tget t 0) (T.map Tok.cells) := b3.ext x5
  have p5 : h5.at h2.next = .row (tlist [.int .i64 (Int.ofNat t1)] (0 + 2) t) 4 0 60 true := by rw [x5.2 _ hn3]; exact a3
  rw [natI_eq]
  refine r5.fld (j := 2) i1 (by rw [hc1]; show 2 < 3; decide) ?_
  simp only [hc1, rn, List.getElem_cons_succ, List.getElem_cons_zero]
  rw [asI_k, exB60, oK_some]
  refine stn_i (c := 4) p5 (Nat.zero_le _) rfl (by decide) (by decide) ?_
  generalize hR3 : (Ob.row (tlist [.nils, .int .i64 (Int.ofNat t1), .int .i64 (.ofNat 0), .bool false] 0 (tlist [.int .i64 (Int.ofNat t1)] (0 + 2) t)) 4 0 60 true : Ob FT) = R3
  rw [iaddN, wrapN (by omega), fI_eq]
  have a6 : (h5.put h2.next R3).at q = .row R2 4 0 60 false := by rw [at_put_o hne]; exact a5
  have y6 : Exh h2 (h5.put h2.next R3) := ⟨y5.1, fun c hc => by rw [at_put_o (fun e' => by subst e'; exact absurd hc (Nat.lt_irrefl _))]; exact y5.2 c hc⟩
  have b6 : BufN 47 8 h2.next.nat (h5.put h2.next R3) (tget t 0) (T.map Tok.cells) := b5.frame (Nat.le_refl _) fun c hc _ tt m z w ha => at_put_o fun e' => by subst e'; rw [p5] at ha; cases ha
  have n6 : (h5.put h2.next R3).next = h5.next := rfl
  generalize h5.put h2.next R3 = h6 at *
  refine j17_1 ?_
  unfold s17_1
  rw [(hB.ext y6).len, ilt, decide_eq_false (by omega)]
  refine cnd_f rfl ?_
  rw [lenV_sl, ilt, decide_eq_true Nat.one_pos]
  refine cnd_t rfl ?_
  rw [lenV_sl]
  rw [show isub (Int.ofNat 1) (Int.ofNat 1) = Int.ofNat 0 from rfl, show wrap .i64 (Int.ofNat 0) = Int.ofNat 0 from wrapN (by omega), fI_eq, natI_eq]
  refine elemA_i Nat.one_pos ?_
  rw [fAddr_i]
  refine st1_i a6 (Nat.zero_le _) (by decide) rfl ?_
  refine j17_3 ?_
  unfold s17_3
  refine hk _ q _ false ?_ (by rw [next_put, n6]; exact q1) (at_put_same _ _ _) ?_
  · exact ⟨y6.1, fun c hc => by rw [at_put_o (fun e' => by subst e'; omega)]; exact y6.2 c hc⟩
  · have : tget (tlist [.int .i64 (Int.ofNat l1)] (0 + 0 * 4 + 2) R2) 0 = tget t 0 := by rw [tget_tlist, if_neg (by omega)]; exact e2
    rw [this]
    exact b6.frame (Nat.le_refl _) fun c hc _ tt m z w ha => at_put_o fun e' => by subst e'; rw [a6] at ha; cases ha
end Go.Den
