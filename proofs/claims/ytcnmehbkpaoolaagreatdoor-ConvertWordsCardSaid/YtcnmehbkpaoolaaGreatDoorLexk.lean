/-
 A part of the proof.
-/
import Derived.Test.YtcnmehbkpaoolaaGreatDoorLexj
import Derived.Test.YtcnmehbkpaoolaaGreatDoorLexs
namespace Go.Den
open Go.RowKit
set_option maxRecDepth 100000
open Go.Lx (Rn Hy Cw Eu tri Vu Ac7 bts)
def A2n (o : Option (UInt8 × UInt8)) : AV := match o with
 | some p => .tuple [ub p.2, .bool true]
 | none => .tuple [.int .u8 (.ofNat 0), .bool false]
theorem Avw {c : UInt8} {k : KV} {h : H} : ∀ (n i : Nat), 9 - i < n → i ≤ 9 → k (A2n (((Vu.zip Ac7).drop i).find? fun p => p.1 == c)) h → (Ahr W1 k n).a1 (Int.ofNat c.toNat) (Int.ofNat i) h
 | 0, _, hn, _, _ => absurd hn (Nat.not_lt_zero _)
 | n + 1, i, hn, hi, hk => by
  refine A36 ?_
  unfold Adu
  rw [ilt]
  refine Bb (fun e => ?_) (fun e => ?_)
  · have e : i < 9 := of_decide_eq_true e
    have e1 : i < Vu.length := e
    have e2 : i < Ac7.length := e
    have e3 : i < (Vu.zip Ac7).length := e
    rw [List.drop_eq_getElem_cons e3, List.find?_cons, List.getElem_zip] at hk
    rw [As]
    refine Ch (s := Vu) e1 ?_
    rw [Ov]
    refine Bb (fun ec => ?_) (fun ec => ?_)
    · have ec : Vu[i] = c := of_decide_eq_true ec
      rw [show (Vu[i] == c) = true from beq_iff_eq.2 ec] at hk
      rw [As]
      refine Ch (s := Ac7) e2 ?_
      exact hk
    · have ec : ¬ Vu[i] = c := of_decide_eq_false ec
      rw [show (Vu[i] == c) = false from beq_eq_false_iff_ne.2 ec] at hk
      rw [Dk, Cm (by omega), Ar]
      exact Avw n (i + 1) (by omega) (by omega) hk
  · have e : i = 9 := by have := of_decide_eq_false e; omega
    subst e
    exact hk
theorem Blr (c : UInt8) : Pure PP G h0 181 [ub c] (A2n ((Vu.zip Ac7).find? fun p => p.1 == c)) := by
 refine A9h (n := 11) Bj (Bjx ?_)
 unfold Adv
 exact Avw 10 0 (by omega) (by omega) rfl
theorem Ag9 (c : UInt8) : A2n ((Vu.zip Ac7).find? fun p => p.1 == c) = (match tri c with | some d => .tuple [ub d, .bool true] | none => .tuple [.int .u8 (.ofNat 0), .bool false]) := by
 unfold tri
 cases (Vu.zip Ac7).find? fun p => p.1 == c with
 | none => rfl
 | some p => rfl
theorem Apl {s : List UInt8} {i : Nat} (h : i < s.length) (hn : ∀ h2 : i + 2 < s.length, s[i] = 63 → s[i + 1] = 63 → tri s[i + 2] = none) : Cw i (s.drop i) = (s[i], i, i + 1) :: Cw (i + 1) (s.drop (i + 1)) := by
 rw [List.drop_eq_getElem_cons h]
 rcases Nat.lt_or_ge (i + 1) s.length with h1 | h1
 · rw [List.drop_eq_getElem_cons h1]
   rcases Nat.lt_or_ge (i + 2) s.length with h2 | h2
   · rw [List.drop_eq_getElem_cons h2, Cw]
     by_cases e : s[i] = 63 ∧ s[i + 1] = 63
     · rw [if_pos e, hn h2 e.1 e.2]
     · rw [if_neg e]
   · rw [List.drop_eq_nil_of_le (by omega), Cw, Cw]
 · rw [List.drop_eq_nil_of_le h1, Cw, Cw]
theorem Akm {s : List UInt8} {i : Nat} (h2 : i + 2 < s.length) (e1 : s[i] = 63) (e2 : s[i + 1] = 63) {d : UInt8} (e3 : tri s[i + 2] = some d) : Cw i (s.drop i) = (d, i, i + 3) :: Cw (i + 3) (s.drop (i + 3)) := by
 rw [List.drop_eq_getElem_cons (show i < s.length by omega), List.drop_eq_getElem_cons (show i + 1 < s.length by omega), List.drop_eq_getElem_cons h2, Cw, if_pos ⟨e1, e2⟩, e3]
theorem Bi5 {h : H} {Q : (Bool → H → Prop) → Prop} {k : Bool → H → Prop} (hq : Q k) : Am (fun k1 => gate false false (Q k1) (k1 true h)) k := hq
theorem A4t (x : UInt8) (n : Nat) (hn : n < 256) : Ba (Int.ofNat x.toNat) (Int.ofNat n) = decide (x = UInt8.ofNat n) := toNat_eq x n hn
section
variable {hE : H} {s : List UInt8} {k : KV} (hl : s.length ≤ 1000000)
include hl
theorem Az6 (n : Nat) : ∀ (i : Nat) (acc : List Rn) {h : H} {v : AV}, 2 * (s.length - i) < n → i ≤ s.length → acc.length ≤ i → Exh hE h → Cv 174 3 hE.next.nat h v (cel acc) →
 (∀ h' v', Exh hE h' → Cv 174 3 hE.next.nat h' v' (cel (acc ++ Cw i (s.drop i))) → k v' h') → (Zj W1 k n).a1 s.length (enc s) v (Int.ofNat i) h := by
 induction n using Nat.strongRecOn with
 | _ n ih =>
  intro i acc h v hn hi ha hx hb hk
  obtain ⟨n, rfl⟩ : ∃ m, n = m + 1 := ⟨n - 1, by omega⟩
  refine A4m ?_
  unfold Aes
  rw [ilt]
  refine Bb (fun e => ?_) (fun e => ?_)
  · have e : i < s.length := of_decide_eq_true e
    obtain ⟨n, rfl⟩ : ∃ m, n = m + 1 := ⟨n - 1, by omega⟩
    have ec : ∀ (l : List Rn) (r : Rn), cel (l ++ [r]) = cel l ++ [[ub r.1, .int .i64 (.ofNat r.2.1), .int .i64 (.ofNat r.2.2)]] := fun l r => by unfold cel; rw [List.map_append]; rfl
    have one : ∀ h', (∀ h2 : i + 2 < s.length, s[i] = 63 → s[i + 1] = 63 → tri s[i + 2] = none) → h' = h → (Zj W1 k (n + 1)).a2 s.length (enc s) v (Int.ofNat i) h' := fun h' hno e' => by
     subst e'
     refine A4l ?_
     unfold Aer
     rw [As]
     refine Ch e ?_
     rw [Dk, Cm (by omega), Ar, Aut, Ae]
     refine Aoz hb (by rw [Gl]; omega) hx.1 fun v' h2 hb' hk' => ?_
     rw [Ar]
     refine ih n (by omega) (i + 1) (acc ++ [(s[i], i, i + 1)]) (by omega) e (by rw [List.length_append, List.length_singleton]; omega) (hx.kp (Nat.le_refl _) hk') (by rw [ec]; exact hb') fun h3 v3 a b => ?_
     refine hk h3 v3 a ?_
     rw [Apl e hno]
     rw [List.append_assoc] at b; exact b
    rw [Dk, Cm (by omega), Ar]
    refine Lq (b := decide (s[i] = 63)) (fun k' hk' => ?_) ?_
    · rw [As]
      refine Ch e ?_
      rw [A4t _ 63 (by decide)]; exact hk'
    rw [ilt]
    refine Gq (fun e1 => ?_) (fun e1 => ?_)
    · rw [Bool.and_eq_true, decide_eq_true_eq, decide_eq_true_eq] at e1
      rw [Dk, Cm (by omega), Ar, As]
      refine Ch (show i + 1 < s.length by omega) ?_
      rw [A4t _ 63 (by decide)]
      refine Bb (fun e2 => ?_) (fun e2 => ?_)
      · have e2 : s[i + 1] = 63 := of_decide_eq_true e2
        rw [Ar, As]
        refine Ch e1.1 ?_
        refine Dn (Blr s[i + 2]) ?_ rfl (by rw [Ag9]; cases tri s[i + 2] <;> rfl)
        rw [Ag9]
        cases ht : tri s[i + 2] with
        | none =>
         show ext 0 (.tuple [.int .u8 (.ofNat 0), .bool false]) _
         rw [Ed, Au, Ek, Bv]
         exact Bl rfl (one _ (fun _ _ _ => ht) rfl)
        | some d =>
         show ext 0 (.tuple [ub d, .bool true]) _
         rw [Ed]
         unfold ub
         rw [Au, Ek, Bv]
         refine Cd rfl ?_
         rw [Dk, Cm (by omega), Ar, Aut, Ae]
         refine Aoz hb (by rw [Gl]; omega) hx.1 fun v' h2 hb' hk' => ?_
         rw [Ar]
         refine ih (n + 1) (by omega) (i + 3) (acc ++ [(d, i, i + 3)]) (by omega) (by omega) (by rw [List.length_append, List.length_singleton]; omega) (hx.kp (Nat.le_refl _) hk') (by rw [ec]; exact hb') fun h3 v3 a b => ?_
         refine hk h3 v3 a ?_
         rw [Akm e1.1 e1.2 e2 ht]
         rw [List.append_assoc] at b; exact b
      · exact one _ (fun _ _ h' => absurd h' (of_decide_eq_false e2)) rfl
    · exact Bl rfl (one _ (fun h2 h' _ => by rw [decide_eq_true h2, decide_eq_true h'] at e1; cases e1) rfl)
  · have e : ¬ i < s.length := of_decide_eq_false e
    rw [List.drop_eq_nil_of_le (by omega), show Cw i [] = [] by rw [Cw], List.append_nil] at hk
    exact hk _ _ hx hb
theorem A8e {h : H} (hk : ∀ h' v', Exh h h' → Cv 174 3 h.next.nat h' v' (cel (Cw 0 s)) → k v' h') : W1 (.func 128) [S s] h k := by
 refine A9z (n := 2 * s.length + 1 + 1) Bj (Bkf ?_)
 unfold Aet
 refine Az6 hl (2 * s.length + 1) 0 [] (by omega) (Nat.zero_le _) (Nat.le_refl _) .refl (.inl ⟨rfl, rfl⟩) fun h' v' a b => hk h' v' a b
end
theorem Tx : ∀ (s : List UInt8) (i : Nat), (Cw i s).length ≤ s.length ∧ ∀ x ∈ Cw i s, x.2.1 ≤ i + s.length ∧ x.2.2 ≤ i + s.length
 | [], i => by rw [Cw]; exact ⟨Nat.le_refl _, fun x hx => by cases hx⟩
 | [a], i => by
  rw [Cw]
  refine ⟨Nat.le_refl _, fun x hx => ?_⟩
  simp only [List.mem_singleton] at hx; subst hx
  simp
 | [a, b], i => by
  rw [Cw]
  refine ⟨Nat.le_refl _, fun x hx => ?_⟩
  simp only [List.mem_cons, List.not_mem_nil, or_false] at hx
  rcases hx with rfl | rfl
  · simp only [List.length_cons, List.length_nil]; omega
  · simp
 | a :: b :: c :: r, i => by
  have h1 := Tx (b :: c :: r) (i + 1)
  have h2 := Tx r (i + 3)
  have g1 : ((a, i, i + 1) :: Cw (i + 1) (b :: c :: r)).length ≤ (a :: b :: c :: r).length ∧ ∀ x ∈ (a, i, i + 1) :: Cw (i + 1) (b :: c :: r), x.2.1 ≤ i + (a :: b :: c :: r).length ∧ x.2.2 ≤ i + (a :: b :: c :: r).length := by
   refine ⟨by simp only [List.length_cons] at h1 ⊢; omega, fun x hx => ?_⟩
   rcases List.mem_cons.1 hx with rfl | hx
   · simp only [List.length_cons]; omega
   · have := h1.2 x hx
     simp only [List.length_cons] at this ⊢; omega
  rw [Cw]
  split
  · split
    · refine ⟨by simp only [List.length_cons]; omega, fun x hx => ?_⟩
      rcases List.mem_cons.1 hx with rfl | hx
      · simp only [List.length_cons]; omega
      · have := h2.2 x hx
        simp only [List.length_cons] at this ⊢; omega
    · exact g1
  · exact g1
theorem Ac9 : ∀ (l : List Rn), (Hy l).length ≤ l.length ∧ ∀ x ∈ Hy l, x ∈ l
 | [] => by rw [Hy]; exact ⟨Nat.le_refl _, fun x hx => hx⟩
 | [x] => by rw [Hy]; exact ⟨Nat.le_refl _, fun x hx => hx⟩
 | x :: y :: r => by
  have h1 := Ac9 r
  have h2 := Ac9 (y :: r)
  rw [Aj9]
  split
  · exact ⟨by simp only [List.length_cons]; omega, fun z hz => by simp [h1.2 z hz]⟩
  · refine ⟨by simp only [List.length_cons] at h2 ⊢; omega, fun z hz => ?_⟩
    rcases List.mem_cons.1 hz with rfl | hz
    · simp
    · have := h2.2 z hz; simp only [List.mem_cons] at this ⊢; exact .inr this
theorem Ax9 {l : List Rn} (hb : ∀ x ∈ l, x.2.1 ≤ 1000001 ∧ x.2.2 ≤ 1000001) : Rns (cel l) (bts l) := by
 refine ⟨by rw [Gl]; unfold bts; rw [List.length_map], fun i hi hi' => ?_⟩
 have h1 : i < l.length := by rw [Gl] at hi'; exact hi'
 obtain ⟨b1, b2⟩ := hb _ (List.getElem_mem h1)
 refine ⟨l[i].2.1, l[i].2.2, b1, b2, ?_⟩
 rw [Kh h1]
 unfold Alh rn
 have : (bts l)[i] = l[i].1 := List.getElem_map ..
 rw [this]
theorem Cv.rd' {e : TypeId} {sz lo : Nat} {h : H} {v : AV} {L : List (List AV)} (hb : Cv e sz lo h v L) : (v = .Ad ∧ L = []) ∨ Rd sz h v L := by
 rcases hb with ⟨a, b⟩ | ⟨q, t, m, z, w, rfl, _, h2, h3, h4, _, h6⟩
 · exact .inl ⟨a, b⟩
 · exact .inr ⟨q, 0, t, m, z, e, w, false, rfl, h2, h3, by omega, h6⟩
theorem A8f {l : List Rn} {lo : Nat} {v0 : AV} {h : H} {k : KV} (hl : l.length ≤ 1000000) (hb : Cv 174 3 lo h v0 (cel l)) (hk : ∀ h' v', Exh h h' → Cv 174 3 h.next.nat h' v' (cel (Hy l)) → k v' h') : W1 (.func 127) [v0] h k := by
 refine A90 (n := 2 * l.length + 1 + 1) Bj (Bkg ?_)
 unfold Aeu
 rcases hb.rd' with ⟨rfl, e⟩ | hr
 · have : l = [] := by cases l with
    | nil => rfl
    | cons x l => exact absurd e (by unfold cel; simp)
   subst this
   refine At1 ?_
   unfold Za
   rw [Acj, ilt]
   exact Bl rfl (hk h .Ad .refl (.inl ⟨rfl, by rw [Hy]; rfl⟩))
 · exact Agl hl hr (2 * l.length + 1) 0 [] (by omega) (Nat.zero_le _) (Nat.le_refl _) .refl (.inl ⟨rfl, rfl⟩) fun h' v' a b => hk h' v' a b
theorem Bi4 {h : H} {Q : (Bool → H → Prop) → Prop} {k : Bool → H → Prop} (hk : k true h) : Am (fun k1 => gate false true (Q k1) (k1 true h)) k := hk
theorem Bfx {s : List UInt8} {h : H} {k : KV} (hl : s.length ≤ 999999) (hk : ∀ h' v', Exh h h' → Cv 174 3 h.next.nat h' v' (cel (Eu s)) → k v' h') : W1 (.func 77) [S s] h k := by
 refine w77 (n := 1) Bj (g77 ?_)
 unfold Aml
 have pb := Tx s 0
 have sb := Ac9 (Cw 0 s)
 refine A8e (by omega) fun h1 v1 x1 b1 => ?_
 refine A8f (by omega) b1 fun h2 v2 x2 b2 => ?_
 have x12 := x1.trans x2
 have b2 : Cv 174 3 h.next.nat h2 v2 (cel (Hy (Cw 0 s))) := by
  rcases b2 with ⟨a, b⟩ | ⟨q, t, m, z, w, e1, e2, e3⟩
  · exact .inl ⟨a, b⟩
  · exact .inr ⟨q, t, m, z, w, e1, by have := x1.1; omega, e3⟩
 unfold Eu at hk
 rw [ilt]
 by_cases hs : s = []
 · subst hs
   rw [if_neg (fun e => e.1 rfl)] at hk
   rw [show decide (0 < ([] : List UInt8).length) = false from rfl]
   refine Gq (fun e => nomatch e) (fun _ => Bl rfl ?_)
   exact hk h2 v2 x12 b2
 have hpos : 0 < s.length := List.length_pos_iff.2 hs
 rw [decide_eq_true hpos]
 generalize hL2 : Hy (Cw 0 s) = l2 at *
 refine Lq (b := decide ((l2.getLast?.map (·.1)) ≠ some 10)) (fun k' hk' => ?_) ?_
 · rw [b2.len, Gl, Sr]
   by_cases h0 : l2 = []
   · subst h0
     exact Bi4 hk'
   · have hp : 0 < l2.length := List.length_pos_iff.2 h0
     rw [decide_eq_false (show ¬ l2.length = 0 by omega)]
     refine Bi5 ?_
     rw [b2.len, Gl, Acn hp, Cm (by omega), Ar, As]
     have hlt : l2.length - 1 < l2.length := by omega
     have hlt' : l2.length - 1 < (cel l2).length := by rw [Gl]; exact hlt
     refine (b2.rd (fun e => h0 (by cases l2 with
      | nil => rfl
      | cons x l => exact absurd e (by unfold cel; simp)))).fld (j := 0) hlt' (by rw [Kh hlt]; exact Nat.zero_lt_succ _) ?_
     simp only [Kh hlt, Alh, List.getElem_cons_zero]
     unfold ub
     rw [Au, A4t _ 10 (by decide), Bq]
     have e2 : (l2.getLast?.map (·.1)) = some l2[l2.length - 1].1 := by rw [List.getLast?_eq_getElem?, List.getElem?_eq_getElem hlt]; rfl
     rw [e2] at hk'
     have e3 : decide (some l2[l2.length - 1].1 ≠ some (10 : UInt8)) = !decide (l2[l2.length - 1].1 = UInt8.ofNat 10) := by
      by_cases e : l2[l2.length - 1].1 = 10
      · rw [e]; rfl
      · have e' : ¬ l2[l2.length - 1].1 = UInt8.ofNat 10 := e
        rw [decide_eq_false e', decide_eq_true (show some l2[l2.length - 1].1 ≠ some (10 : UInt8) from fun h' => e (Option.some.inj h'))]; rfl
     rw [e3] at hk'
     exact hk'
 · rw [Bool.true_and]
   by_cases he : (l2.getLast?.map (·.1)) ≠ some 10
   · rw [if_pos ⟨hs, he⟩] at hk
     refine Cd (decide_eq_true he) ?_
     rw [Aut, Ae]
     refine Aoz b2 (by rw [Gl]; omega) x12.1 fun v' h' hb' hk' => ?_
     refine hk h' v' (x12.kp (Nat.le_refl _) hk') ?_
     unfold cel at hb' ⊢
     rw [List.map_append]; exact hb'
   · rw [if_neg (fun e => he e.2)] at hk
     exact Bl (decide_eq_false he) (hk h2 v2 x12 b2)
theorem Avg (s : List UInt8) : (Eu s).length ≤ s.length + 1 ∧ ∀ x ∈ Eu s, x.2.1 ≤ s.length ∧ x.2.2 ≤ s.length := by
 have pb := Tx s 0
 have sb := Ac9 (Cw 0 s)
 rw [Nat.zero_add] at pb
 unfold Eu
 split
 · refine ⟨by rw [List.length_append, List.length_singleton]; omega, fun x hx => ?_⟩
   rcases List.mem_append.1 hx with hx | hx
   · exact pb.2 x (sb.2 x hx)
   · simp only [List.mem_singleton] at hx; subst hx; simp
 · exact ⟨by omega, fun x hx => pb.2 x (sb.2 x hx)⟩
theorem Bf0 {h : H} {s : List UInt8} {Q : List Tok → Prop} {k : KV} (hl : s.length ≤ 999990) (h0 : 0 < (bts (Eu s)).length) (h10 : bt (bts (Eu s)) ((bts (Eu s)).length - 1) = 10) (hx : Lx (bts (Eu s)) Q 0 false [])
 (hk : ∀ h' q t w T, Q T → T.length ≤ s.length + 1 → Exh h h' → q.nat < h'.next.nat → h'.at q = .row t 4 0 114 w → Cv 43 8 h.next.nat h' (Az t 0) (T.map Tok.cells) → k (.tuple [.slice q 0 1 4 false, .Ad]) h') : W1 (.func 46) [.str 1 102, S s] h k := by
 have cb := Avg s
 have hBl : (bts (Eu s)).length = (Eu s).length := by unfold bts; rw [List.length_map]
 refine w46 (n := 3 * (s.length + 1) + 20) Bj (g46 ?_)
 unfold Am4
 refine Bfx (by omega) fun h2 vr x2 b2 => ?_
 have rs : Rs h2 vr (bts (Eu s)) := ⟨_, b2.rd (fun e => by rw [hBl, ← Gl, e] at h0; simp at h0), Ax9 fun x hx => by have := cb.2 x hx; omega⟩
 refine Ec ?_
 have ls : LS h2 (h2.new As8) [] := by
  refine ⟨Exh.new, by rw [Bg]; omega, _, Ax _ _, .inl ⟨?_, rfl⟩⟩
  rw [Ao]; rfl
 refine hx h2 vr s.length (enc s) k rs (by omega) (fun T' b' hQ => ?_) _ (h2.new As8) (by omega) (Nat.zero_le _) ls
 intro n h3 hn hT ls3
 obtain ⟨n, rfl⟩ : ∃ m, n = m + 3 := ⟨n - 3, by omega⟩
 refine A3v rs (by omega) h0 h10 ls3 fun h' q t w x' hq ha hb => ?_
 refine hk h' q t w T' hQ (by omega) (x2.trans x') hq ha ?_
 rcases hb with e | ⟨q', t', m, z, w', e1, e2, e3⟩
 · exact .inl e
 · exact .inr ⟨q', t', m, z, w', e1, by have := x2.1; omega, e3⟩
end Go.Den
