/-
 Part of the proof.
-/
import Derived.Test.YtcnmehbkpaoolaaGreatDoorLex7
import Derived.Test.YtcnmehbkpaoolaaGreatDoorLexh
import Derived.Test.YtcnmehbkpaoolaaGreatDoorLexs
set_option maxRecDepth 100000
namespace Go.Den
open Go.RowKit
theorem Aqr {B : List UInt8} {i : Nat} (h : Go.Lx.Qp (B.drop i) = none) : bt B i ≠ 47 ∨ (bt B (i + 1) ≠ 47 ∧ bt B (i + 1) ≠ 42) := by
 unfold Go.Lx.Qp at h
 rw [show Go.Lx.at0 (B.drop i) 0 = bt B i from It, show Go.Lx.at0 (B.drop i) 1 = bt B (i + 1) from It] at h
 by_cases h0 : bt B i = 47
 · right
   rw [if_neg (fun e => e h0)] at h
   by_cases h1 : bt B (i + 1) = 47
   · rw [if_pos h1] at h; cases h
   · rw [if_neg h1] at h
     refine ⟨h1, fun h2 => ?_⟩
     rw [if_neg (fun e => e h2)] at h
     cases hb : Go.Lx.Ti ((B.drop i).drop 2) with
     | none => rw [hb] at h; cases h
     | some n => rw [hb] at h; cases h
 · exact .inl h0
theorem Lx.Bjg {B : List UInt8} {Q : List Tok → Prop} {i : Nat} {b : Bool} {T : List Tok} (_hl : B.length ≤ 1000000) (hi : i < B.length) (h10 : B[i] ≠ 10) (hw : Gr B[i] = false) (hc : Go.Lx.Qp (B.drop i) = none) (hb : (Go.Lx.Gw (B.drop i)).2.2 = false)
 (hk : ∀ f t, Lx B Q (i + (Go.Lx.Gw (B.drop i)).2.1) false (T ++ [⟨(Go.Lx.Gw (B.drop i)).1, (B.drop i).take (Go.Lx.Gw (B.drop i)).2.1, b, f, t⟩])) : Lx B Q i b T := by
 have hle := Go.Lx.Ats (s := B.drop i) (fun e => by have := congrArg List.length e; rw [List.length_drop] at this; simp at this; omega)
 rw [List.length_drop] at hle
 refine Lx.tok (C := fun kd e => kd = (Go.Lx.Gw (B.drop i)).1 ∧ e = i + (Go.Lx.Gw (B.drop i)).2.1) hi h10 hw (Aqr hc) (fun h vr k hr hl hk => ?_) (fun kd e hC => ?_) (fun kd e f t hC => ?_)
 · refine Bgl hr hl hi fun h' x => ?_
   have := hk _ _ h' ⟨rfl, rfl⟩ x
   unfold nxV
   rw [hb]; exact this
 · rw [hC.2]; omega
 · obtain ⟨rfl, rfl⟩ := hC
   rw [Nat.add_sub_cancel_left]
   exact hk f t
theorem Avt {s : List UInt8} {n : Nat} {b : Bool} (h : Go.Lx.Qp s = some (n, b)) : 0 < n := by
 unfold Go.Lx.Qp at h
 split at h
 · cases h
 · rename_i h0
   have h0 : Go.Lx.at0 s 0 = 47 := by
    by_cases e : Go.Lx.at0 s 0 = 47
    · exact e
    · exact absurd e h0
   cases s with
   | nil => exact absurd h0 (by decide)
   | cons x s =>
    have hx : x = 47 := h0
    split at h
    · cases h
      rw [List.takeWhile_cons, if_pos (by rw [hx]; decide)]
      simp
    · split at h
      · cases h
      · split at h
        · cases h; omega
        · cases h; simp
theorem Lx.Bl6 {B : List UInt8} {Q : List Tok → Prop} {i n : Nat} {b : Bool} {T : List Tok} (hl : B.length ≤ 1000000) (hi : i < B.length) (h10 : B[i] ≠ 10) (hw : Gr B[i] = false) (hc : Go.Lx.Qp (B.drop i) = some (n, false)) (hk : Lx B Q (i + n) true T) : Lx B Q i b T := by
 have hn := Avt hc
 intro h2 vr l1 c1 k hr hl hq m h hm hT hs
 obtain ⟨m, rfl⟩ : ∃ x, m = x + 1 := ⟨m - 1, by omega⟩
 have hr' := hr.ext hs.1
 refine Aiy ?_
 unfold Wz
 rw [hr'.len, ilt, decide_eq_true hi]
 refine Cg rfl ?_
 rw [Ar]
 refine hr'.at0 hi ?_
 unfold ub
 rw [Au, Sw _ 10 10 rfl, decide_eq_false h10]
 refine Bp rfl ?_
 rw [Ar]
 refine hr'.at0 hi ?_
 unfold ub
 rw [Au]
 refine Dq (c78 _) ?_
 rw [Ce, hw]
 refine Bp rfl ?_
 refine Bgm hr' hl hi ?_
 unfold A0g
 rw [hc]
 show ext 0 (.tuple [.int .i64 (Int.ofNat (i + n)), .bool false]) _
 rw [Eo, Au, Ew, Ce, ilt, decide_eq_true (show i < i + n by omega)]
 refine Cg rfl ?_
 refine Bp rfl ?_
 exact hk h2 vr l1 c1 k hr hl hq m h (by omega) (by omega) hs
def We : Nat → List UInt8 → Bool
 | 0, _ => false
 | _ + 1, [] => false
 | k + 1, x :: s =>
  if x = 10 then s.isEmpty
  else if Gr x then We k s
  else match Go.Lx.Qp (x :: s) with
   | some (_, true) => false
   | some (j, false) => We k ((x :: s).drop j)
   | none => !(Go.Lx.Gw (x :: s)).2.2 && We k ((x :: s).drop (Go.Lx.Gw (x :: s)).2.1)
def bare (x : Tok) : Nat × List UInt8 × Bool := (x.kind, x.text, x.space)
theorem Lx.all {B : List UInt8} {Q : List Tok → Prop} (hl : B.length ≤ 1000000) : ∀ (k i : Nat) (b : Bool) (T : List Tok), We k (B.drop i) = true → (∀ T', T'.map bare = Go.Lx.Ry k (B.drop i) b → Q (T ++ T')) → Lx B Q i b T := by
 intro k
 induction k with
 | zero => intro i b T h; simp [We] at h
 | succ k ih =>
  intro i b T h hQ
  rcases Nat.lt_or_ge i B.length with hi | hi
  case inr => rw [List.drop_eq_nil_of_le hi] at h; simp [We] at h
  have hd := drop_cons hi
  rw [hd] at h hQ
  unfold We at h
  unfold Go.Lx.Ry at hQ
  by_cases h10 : B[i] = 10
  · rw [if_pos h10] at h hQ
    have hlen : B.drop (i + 1) = [] := by simpa using h
    have hi1 : B.length ≤ i + 1 := by have := congrArg List.length hlen; rw [List.length_drop] at this; simp at this; omega
    have e : i = B.length - 1 := by omega
    have := hQ [] rfl
    rw [List.append_nil] at this
    rw [e]; exact Lx.ends this
  · rw [if_neg h10] at h hQ
    by_cases hw : Gr B[i] = true
    · rw [if_pos hw] at h
      rw [if_pos (show Go.Lx.Gr B[i] = true from hw)] at hQ
      exact Lx.ws hi h10 hw (ih (i + 1) true T h hQ)
    · have hw' : Gr B[i] = false := by simpa using hw
      rw [if_neg hw] at h
      rw [if_neg (show ¬ Go.Lx.Gr B[i] = true from hw)] at hQ
      rw [← hd] at h hQ
      cases hc : Go.Lx.Qp (B.drop i) with
      | none =>
       rw [hc] at h hQ
       simp only [Bool.and_eq_true, Bool.not_eq_true'] at h
       rw [List.drop_drop] at h
       refine Lx.Bjg hl hi h10 hw' hc h.1 fun f t => ih _ false _ h.2 fun T' hT' => ?_
       rw [List.append_assoc]
       refine hQ _ ?_
       rw [List.singleton_append, List.map_cons, hT', List.drop_drop]
       rfl
      | some p =>
       obtain ⟨n, o⟩ := p
       rw [hc] at h hQ
       cases o with
       | true => simp at h
       | false =>
        simp only [List.drop_drop] at h hQ
        exact Lx.Bl6 hl hi h10 hw' hc (ih _ true T h hQ)
end Go.Den
namespace Go.Den
open Go.RowKit
open Go.Lx (Rn Ig)
def Alw (r : Rn) : List AV := [ub r.1, .int .i64 (.ofNat r.2.1), .int .i64 (.ofNat r.2.2)]
def cel (l : List Rn) : List (List AV) := l.map Alw
theorem Gs (l : List Rn) : (cel l).length = l.length := by unfold cel; rw [List.length_map]
theorem Ks {l : List Rn} {i : Nat} (h : i < l.length) (h' : i < (cel l).length) : (cel l)[i] = Alw l[i] := List.getElem_map ..
theorem Akk {x y : Rn} {r : List Rn} : Ig (x :: y :: r) = if x.1 = 92 ∧ y.1 = 10 then Ig r else x :: Ig (y :: r) := by rw [Ig]
theorem Aru {l : List Rn} {i : Nat} (h : i + 1 < l.length) (e : l[i].1 = 92) (e1 : l[i + 1].1 = 10) : Ig (l.drop i) = Ig (l.drop (i + 2)) := by
 rw [List.drop_eq_getElem_cons (show i < l.length by omega), List.drop_eq_getElem_cons h, Akk, if_pos ⟨e, e1⟩]
theorem Ayg {l : List Rn} {i : Nat} (h : i < l.length) (hs : ¬ (l[i].1 = 92 ∧ ∃ h1 : i + 1 < l.length, l[i + 1].1 = 10)) : Ig (l.drop i) = l[i] :: Ig (l.drop (i + 1)) := by
 rw [List.drop_eq_getElem_cons h]
 rcases Nat.lt_or_ge (i + 1) l.length with h1 | h1
 · rw [List.drop_eq_getElem_cons h1, Akk, if_neg (fun e => hs ⟨e.1, h1, e.2⟩)]
 · rw [List.drop_eq_nil_of_le h1]; rw [Ig, Ig]
theorem Agu {hE : H} {l : List Rn} {v0 : AV} {k : KV} (hl : l.length ≤ 1000000) (hr : Rd 3 hE v0 (cel l)) :
    ∀ (n i : Nat) (acc : List Rn) {h : H} {v : AV}, 2 * (l.length - i) < n → i ≤ l.length → acc.length ≤ i → Exh hE h → Ct 174 3 hE.next.nat h v (cel acc) →
    (∀ h' v', Exh hE h' → Ct 174 3 hE.next.nat h' v' (cel (acc ++ Ig (l.drop i))) → k v' h') → (Zu W1 k n).a1 v0 v (Int.ofNat i) h
  | 0, _, _, _, _, hn, _, _, _, _, _ => absurd hn (Nat.not_lt_zero _)
  | n + 1, i, acc, h, v, hn, hi, ha, hx, hb, hk => by
    refine Aue ?_
    unfold Zm
    have hr' := hr.ext hx
    rw [hr'.len, Gs, ilt]
    refine Aw (fun e => ?_) (fun e => ?_)
    · have e : i < l.length := of_decide_eq_true e
      have e' : i < (cel l).length := by rw [Gs]; exact e
      obtain ⟨m, rfl⟩ : ∃ m, n = m + 1 := ⟨n - 1, by omega⟩
      refine Aaf (hr'.fld (j := 0) e' (by rw [Ks e]; exact Nat.zero_lt_succ _) ?_)
      simp only [Ks e, Alw, List.getElem_cons_zero]
      unfold ub
      rw [Au, Azv _ 92 (by decide)]
      refine Li (b := decide (i + 1 < l.length)) (fun k' hk' => Fu (by omega) ?_) ?_
      · rw [hr'.len, Gs, ilt]; exact hk'
      have rest : ¬ (l[i].1 = 92 ∧ ∃ h1 : i + 1 < l.length, l[i + 1].1 = 10) → Ci (Int.ofNat i) fun m22 => Ca 3 m22 v0 fun v23 => ldn 3 v23 h fun v24 =>
          oK (An env 171 (fun e ei => Aj 1 [(0, v24)] h e ei)) fun v25 h26 => oK (Ao env .append [171, 171] [v, v25] h26) fun v27 h28 => (Zu W1 k (m + 1)).a2 v0 v27 (Int.ofNat i) h28 := fun hs => by
        refine Aaf (hr'.all e' (by rw [Ks e]; rfl) ?_)
        rw [Ks e]
        unfold Alw
        refine Apf hb (by rw [Gs]; omega) hx.1 fun v' h' hb' hk' => ?_
        refine Aud ?_
        unfold Zl
        refine Fu (by omega) ?_
        have ec : cel (acc ++ [l[i]]) = cel acc ++ [[ub l[i].1, .int .i64 (.ofNat l[i].2.1), .int .i64 (.ofNat l[i].2.2)]] := by unfold cel; rw [List.map_append]; rfl
        refine Agu hl hr m (i + 1) (acc ++ [l[i]]) (by omega) e (by rw [List.length_append, List.length_singleton]; omega) (hx.kp (Nat.le_refl _) hk') (by rw [ec]; exact hb') fun h2 v2 a b => ?_
        rw [Ayg e hs] at hk
        refine hk h2 v2 a ?_
        rw [List.append_assoc] at b; exact b
      refine Gu (fun e2 => ?_) (fun e2 => ?_)
      · simp only [Bool.and_eq_true, decide_eq_true_eq] at e2
        have e2' : i + 1 < (cel l).length := by rw [Gs]; exact e2.2
        refine Fu (by omega) (Aaf (hr'.fld (j := 0) e2' (by rw [Ks e2.2]; exact Nat.zero_lt_succ _) ?_))
        simp only [Ks e2.2, Alw, List.getElem_cons_zero]
        unfold ub
        rw [Au, Azv _ 10 (by decide)]
        refine Aw (fun e3 => ?_) (fun e3 => ?_)
        · have e3 : l[i + 1].1 = 10 := of_decide_eq_true e3
          refine Fu (by omega) ?_
          refine Aud ?_
          unfold Zl
          refine Fu (by omega) ?_
          rw [Aru e2.2 e2.1 e3] at hk
          exact Agu hl hr m (i + 2) acc (by omega) e2.2 (by omega) hx hb hk
        · exact rest fun hs => by
            obtain ⟨_, h1, h2⟩ := hs
            exact absurd h2 (of_decide_eq_false e3)
      · exact Bp rfl (rest fun hs => by
          obtain ⟨h0, h1, _⟩ := hs
          have h0 : l[i].1 = UInt8.ofNat 92 := h0
          rw [decide_eq_true h0, decide_eq_true h1] at e2; cases e2)
    · have e : ¬ i < l.length := of_decide_eq_false e
      rw [List.drop_eq_nil_of_le (by omega), show Ig [] = [] by rw [Ig], List.append_nil] at hk
      exact hk _ _ hx hb
end Go.Den
namespace Go.Den
open Go.RowKit
open Go.Lx (Rn Ig Dd Ez tri Vw Adi bts)
def A3c (o : Option (UInt8 × UInt8)) : AV := match o with
 | some p => .tuple [ub p.2, .bool true]
 | none => .tuple [.int .u8 (.ofNat 0), .bool false]
theorem Awb {c : UInt8} {k : KV} {h : H} : ∀ (n i : Nat), 9 - i < n → i ≤ 9 → k (A3c (((Vw.zip Adi).drop i).find? fun p => p.1 == c)) h → (Ah3 W1 k n).a1 (Int.ofNat c.toNat) (Int.ofNat i) h
 | 0, _, hn, _, _ => absurd hn (Nat.not_lt_zero _)
 | n + 1, i, hn, hi, hk => by
  refine A4z ?_
  unfold Ad5
  rw [ilt]
  refine Aw (fun e => ?_) (fun e => ?_)
  · have e : i < 9 := of_decide_eq_true e
    have e1 : i < Vw.length := e
    have e2 : i < Adi.length := e
    have e3 : i < (Vw.zip Adi).length := e
    rw [List.drop_eq_getElem_cons e3, List.find?_cons, List.getElem_zip] at hk
    rw [Ar]
    refine Ck (s := Vw) e1 ?_
    rw [Pd]
    refine Aw (fun ec => ?_) (fun ec => ?_)
    · have ec : Vw[i] = c := of_decide_eq_true ec
      rw [show (Vw[i] == c) = true from beq_iff_eq.2 ec] at hk
      rw [Ar]
      refine Ck (s := Adi) e2 ?_
      exact hk
    · have ec : ¬ Vw[i] = c := of_decide_eq_false ec
      rw [show (Vw[i] == c) = false from beq_eq_false_iff_ne.2 ec] at hk
      rw [Dl, Co (by omega), As]
      exact Awb n (i + 1) (by omega) (by omega) hk
  · have e : i = 9 := by have := of_decide_eq_false e; omega
    subst e
    exact hk
theorem Bmo (c : UInt8) : Pure PP G h0 181 [ub c] (A3c ((Vw.zip Adi).find? fun p => p.1 == c)) := by
 refine Bac (n := 11) Bn (Bkp ?_)
 unfold Ad6
 exact Awb 10 0 (by omega) (by omega) rfl
theorem Ahj (c : UInt8) : A3c ((Vw.zip Adi).find? fun p => p.1 == c) = (match tri c with | some d => .tuple [ub d, .bool true] | none => .tuple [.int .u8 (.ofNat 0), .bool false]) := by
 unfold tri
 cases (Vw.zip Adi).find? fun p => p.1 == c with
 | none => rfl
 | some p => rfl
theorem Ap0 {s : List UInt8} {i : Nat} (h : i < s.length) (hn : ∀ h2 : i + 2 < s.length, s[i] = 63 → s[i + 1] = 63 → tri s[i + 2] = none) : Dd i (s.drop i) = (s[i], i, i + 1) :: Dd (i + 1) (s.drop (i + 1)) := by
 rw [List.drop_eq_getElem_cons h]
 rcases Nat.lt_or_ge (i + 1) s.length with h1 | h1
 · rw [List.drop_eq_getElem_cons h1]
   rcases Nat.lt_or_ge (i + 2) s.length with h2 | h2
   · rw [List.drop_eq_getElem_cons h2, Dd]
     by_cases e : s[i] = 63 ∧ s[i + 1] = 63
     · rw [if_pos e, hn h2 e.1 e.2]
     · rw [if_neg e]
   · rw [List.drop_eq_nil_of_le (by omega), Dd, Dd]
 · rw [List.drop_eq_nil_of_le h1, Dd, Dd]
theorem Akz {s : List UInt8} {i : Nat} (h2 : i + 2 < s.length) (e1 : s[i] = 63) (e2 : s[i + 1] = 63) {d : UInt8} (e3 : tri s[i + 2] = some d) : Dd i (s.drop i) = (d, i, i + 3) :: Dd (i + 3) (s.drop (i + 3)) := by
 rw [List.drop_eq_getElem_cons (show i < s.length by omega), List.drop_eq_getElem_cons (show i + 1 < s.length by omega), List.drop_eq_getElem_cons h2, Dd, if_pos ⟨e1, e2⟩, e3]
theorem A35 {h : H} {Q : (Bool → H → Prop) → Prop} {k : Bool → H → Prop} (hq : Q k) : Am (fun k1 => gate false false (Q k1) (k1 true h)) k := hq
theorem A5m (x : UInt8) (n : Nat) (hn : n < 256) : Az (Int.ofNat x.toNat) (Int.ofNat n) = decide (x = UInt8.ofNat n) := toNat_eq x n hn
section
variable {hE : H} {s : List UInt8} {k : KV} (hl : s.length ≤ 1000000)
include hl
theorem A0q (n : Nat) : ∀ (i : Nat) (acc : List Rn) {h : H} {v : AV}, 2 * (s.length - i) < n → i ≤ s.length → acc.length ≤ i → Exh hE h → Ct 174 3 hE.next.nat h v (cel acc) →
 (∀ h' v', Exh hE h' → Ct 174 3 hE.next.nat h' v' (cel (acc ++ Dd i (s.drop i))) → k v' h') → (Zt W1 k n).a1 s.length (enc s) v (Int.ofNat i) h := by
 induction n using Nat.strongRecOn with
 | _ n ih =>
  intro i acc h v hn hi ha hx hb hk
  obtain ⟨n, rfl⟩ : ∃ m, n = m + 1 := ⟨n - 1, by omega⟩
  refine A5f ?_
  unfold Ae3
  rw [ilt]
  refine Aw (fun e => ?_) (fun e => ?_)
  · have e : i < s.length := of_decide_eq_true e
    obtain ⟨n, rfl⟩ : ∃ m, n = m + 1 := ⟨n - 1, by omega⟩
    have ec : ∀ (l : List Rn) (r : Rn), cel (l ++ [r]) = cel l ++ [[ub r.1, .int .i64 (.ofNat r.2.1), .int .i64 (.ofNat r.2.2)]] := fun l r => by unfold cel; rw [List.map_append]; rfl
    have one : ∀ h', (∀ h2 : i + 2 < s.length, s[i] = 63 → s[i + 1] = 63 → tri s[i + 2] = none) → h' = h → (Zt W1 k (n + 1)).a2 s.length (enc s) v (Int.ofNat i) h' := fun h' hno e' => by
     subst e'
     refine A5e ?_
     unfold Ae2
     rw [Ar]
     refine Ck e ?_
     rw [Dl, Co (by omega), As, Au7, Ae]
     refine Apf hb (by rw [Gs]; omega) hx.1 fun v' h2 hb' hk' => ?_
     rw [As]
     refine ih n (by omega) (i + 1) (acc ++ [(s[i], i, i + 1)]) (by omega) e (by rw [List.length_append, List.length_singleton]; omega) (hx.kp (Nat.le_refl _) hk') (by rw [ec]; exact hb') fun h3 v3 a b => ?_
     refine hk h3 v3 a ?_
     rw [Ap0 e hno]
     rw [List.append_assoc] at b; exact b
    rw [Dl, Co (by omega), As]
    refine Li (b := decide (s[i] = 63)) (fun k' hk' => ?_) ?_
    · rw [Ar]
      refine Ck e ?_
      rw [A5m _ 63 (by decide)]; exact hk'
    rw [ilt]
    refine Gu (fun e1 => ?_) (fun e1 => ?_)
    · rw [Bool.and_eq_true, decide_eq_true_eq, decide_eq_true_eq] at e1
      rw [Dl, Co (by omega), As, Ar]
      refine Ck (show i + 1 < s.length by omega) ?_
      rw [A5m _ 63 (by decide)]
      refine Aw (fun e2 => ?_) (fun e2 => ?_)
      · have e2 : s[i + 1] = 63 := of_decide_eq_true e2
        rw [As, Ar]
        refine Ck e1.1 ?_
        refine Dq (Bmo s[i + 2]) ?_ rfl (by rw [Ahj]; cases tri s[i + 2] <;> rfl)
        rw [Ahj]
        cases ht : tri s[i + 2] with
        | none =>
         show ext 0 (.tuple [.int .u8 (.ofNat 0), .bool false]) _
         rw [Eo, Au, Ew, Ce]
         exact Bp rfl (one _ (fun _ _ _ => ht) rfl)
        | some d =>
         show ext 0 (.tuple [ub d, .bool true]) _
         rw [Eo]
         unfold ub
         rw [Au, Ew, Ce]
         refine Cg rfl ?_
         rw [Dl, Co (by omega), As, Au7, Ae]
         refine Apf hb (by rw [Gs]; omega) hx.1 fun v' h2 hb' hk' => ?_
         rw [As]
         refine ih (n + 1) (by omega) (i + 3) (acc ++ [(d, i, i + 3)]) (by omega) (by omega) (by rw [List.length_append, List.length_singleton]; omega) (hx.kp (Nat.le_refl _) hk') (by rw [ec]; exact hb') fun h3 v3 a b => ?_
         refine hk h3 v3 a ?_
         rw [Akz e1.1 e1.2 e2 ht]
         rw [List.append_assoc] at b; exact b
      · exact one _ (fun _ _ h' => absurd h' (of_decide_eq_false e2)) rfl
    · exact Bp rfl (one _ (fun h2 h' _ => by rw [decide_eq_true h2, decide_eq_true h'] at e1; cases e1) rfl)
  · have e : ¬ i < s.length := of_decide_eq_false e
    rw [List.drop_eq_nil_of_le (by omega), show Dd i [] = [] by rw [Dd], List.append_nil] at hk
    exact hk _ _ hx hb
theorem A89 {h : H} (hk : ∀ h' v', Exh h h' → Ct 174 3 h.next.nat h' v' (cel (Dd 0 s)) → k v' h') : W1 (.func 128) [S s] h k := by
 refine Bau (n := 2 * s.length + 1 + 1) Bn (Bk7 ?_)
 unfold Ae4
 refine A0q hl (2 * s.length + 1) 0 [] (by omega) (Nat.zero_le _) (Nat.le_refl _) .refl (.inl ⟨rfl, rfl⟩) fun h' v' a b => hk h' v' a b
end
theorem Ub : ∀ (s : List UInt8) (i : Nat), (Dd i s).length ≤ s.length ∧ ∀ x ∈ Dd i s, x.2.1 ≤ i + s.length ∧ x.2.2 ≤ i + s.length
 | [], i => by rw [Dd]; exact ⟨Nat.le_refl _, fun x hx => by cases hx⟩
 | [a], i => by
  rw [Dd]
  refine ⟨Nat.le_refl _, fun x hx => ?_⟩
  simp only [List.mem_singleton] at hx; subst hx
  simp
 | [a, b], i => by
  rw [Dd]
  refine ⟨Nat.le_refl _, fun x hx => ?_⟩
  simp only [List.mem_cons, List.not_mem_nil, or_false] at hx
  rcases hx with rfl | rfl
  · simp only [List.length_cons, List.length_nil]; omega
  · simp
 | a :: b :: c :: r, i => by
  have h1 := Ub (b :: c :: r) (i + 1)
  have h2 := Ub r (i + 3)
  have g1 : ((a, i, i + 1) :: Dd (i + 1) (b :: c :: r)).length ≤ (a :: b :: c :: r).length ∧ ∀ x ∈ (a, i, i + 1) :: Dd (i + 1) (b :: c :: r), x.2.1 ≤ i + (a :: b :: c :: r).length ∧ x.2.2 ≤ i + (a :: b :: c :: r).length := by
   refine ⟨by simp only [List.length_cons] at h1 ⊢; omega, fun x hx => ?_⟩
   rcases List.mem_cons.1 hx with rfl | hx
   · simp only [List.length_cons]; omega
   · have := h1.2 x hx
     simp only [List.length_cons] at this ⊢; omega
  rw [Dd]
  split
  · split
    · refine ⟨by simp only [List.length_cons]; omega, fun x hx => ?_⟩
      rcases List.mem_cons.1 hx with rfl | hx
      · simp only [List.length_cons]; omega
      · have := h2.2 x hx
        simp only [List.length_cons] at this ⊢; omega
    · exact g1
  · exact g1
theorem Adl : ∀ (l : List Rn), (Ig l).length ≤ l.length ∧ ∀ x ∈ Ig l, x ∈ l
 | [] => by rw [Ig]; exact ⟨Nat.le_refl _, fun x hx => hx⟩
 | [x] => by rw [Ig]; exact ⟨Nat.le_refl _, fun x hx => hx⟩
 | x :: y :: r => by
  have h1 := Adl r
  have h2 := Adl (y :: r)
  rw [Akk]
  split
  · exact ⟨by simp only [List.length_cons]; omega, fun z hz => by simp [h1.2 z hz]⟩
  · refine ⟨by simp only [List.length_cons] at h2 ⊢; omega, fun z hz => ?_⟩
    rcases List.mem_cons.1 hz with rfl | hz
    · simp
    · have := h2.2 z hz; simp only [List.mem_cons] at this ⊢; exact .inr this
theorem Ayw {l : List Rn} (hb : ∀ x ∈ l, x.2.1 ≤ 1000001 ∧ x.2.2 ≤ 1000001) : Rns (cel l) (bts l) := by
 refine ⟨by rw [Gs]; unfold bts; rw [List.length_map], fun i hi hi' => ?_⟩
 have h1 : i < l.length := by rw [Gs] at hi'; exact hi'
 obtain ⟨b1, b2⟩ := hb _ (List.getElem_mem h1)
 refine ⟨l[i].2.1, l[i].2.2, b1, b2, ?_⟩
 rw [Ks h1]
 unfold Alw rn
 have : (bts l)[i] = l[i].1 := List.getElem_map ..
 rw [this]
theorem Ct.rd' {e : TypeId} {sz lo : Nat} {h : H} {v : AV} {L : List (List AV)} (hb : Ct e sz lo h v L) : (v = .Ad ∧ L = []) ∨ Rd sz h v L := by
 rcases hb with ⟨a, b⟩ | ⟨q, t, m, z, w, rfl, _, h2, h3, h4, _, h6⟩
 · exact .inl ⟨a, b⟩
 · exact .inr ⟨q, 0, t, m, z, e, w, false, rfl, h2, h3, by omega, h6⟩
theorem A9a {l : List Rn} {lo : Nat} {v0 : AV} {h : H} {k : KV} (hl : l.length ≤ 1000000) (hb : Ct 174 3 lo h v0 (cel l)) (hk : ∀ h' v', Exh h h' → Ct 174 3 h.next.nat h' v' (cel (Ig l)) → k v' h') : W1 (.func 127) [v0] h k := by
 refine Bav (n := 2 * l.length + 1 + 1) Bn (Bk8 ?_)
 unfold Ae5
 rcases hb.rd' with ⟨rfl, e⟩ | hr
 · have : l = [] := by cases l with
    | nil => rfl
    | cons x l => exact absurd e (by unfold cel; simp)
   subst this
   refine Aue ?_
   unfold Zm
   rw [Acr, ilt]
   exact Bp rfl (hk h .Ad .refl (.inl ⟨rfl, by rw [Ig]; rfl⟩))
 · exact Agu hl hr (2 * l.length + 1) 0 [] (by omega) (Nat.zero_le _) (Nat.le_refl _) .refl (.inl ⟨rfl, rfl⟩) fun h' v' a b => hk h' v' a b
theorem Bju {h : H} {Q : (Bool → H → Prop) → Prop} {k : Bool → H → Prop} (hk : k true h) : Am (fun k1 => gate false true (Q k1) (k1 true h)) k := hk
theorem Bgn {s : List UInt8} {h : H} {k : KV} (hl : s.length ≤ 999999) (hk : ∀ h' v', Exh h h' → Ct 174 3 h.next.nat h' v' (cel (Ez s)) → k v' h') : W1 (.func 77) [S s] h k := by
 refine w77 (n := 1) Bn (g77 ?_)
 unfold Am0
 have pb := Ub s 0
 have sb := Adl (Dd 0 s)
 refine A89 (by omega) fun h1 v1 x1 b1 => ?_
 refine A9a (by omega) b1 fun h2 v2 x2 b2 => ?_
 have x12 := x1.trans x2
 have b2 : Ct 174 3 h.next.nat h2 v2 (cel (Ig (Dd 0 s))) := by
  rcases b2 with ⟨a, b⟩ | ⟨q, t, m, z, w, e1, e2, e3⟩
  · exact .inl ⟨a, b⟩
  · exact .inr ⟨q, t, m, z, w, e1, by have := x1.1; omega, e3⟩
 unfold Ez at hk
 rw [ilt]
 by_cases hs : s = []
 · subst hs
   rw [if_neg (fun e => e.1 rfl)] at hk
   rw [show decide (0 < ([] : List UInt8).length) = false from rfl]
   refine Gu (fun e => nomatch e) (fun _ => Bp rfl ?_)
   exact hk h2 v2 x12 b2
 have hpos : 0 < s.length := List.length_pos_iff.2 hs
 rw [decide_eq_true hpos]
 generalize hL2 : Ig (Dd 0 s) = l2 at *
 refine Li (b := decide ((l2.getLast?.map (·.1)) ≠ some 10)) (fun k' hk' => ?_) ?_
 · rw [b2.len, Gs, Ko]
   by_cases h0 : l2 = []
   · subst h0
     exact Bju hk'
   · have hp : 0 < l2.length := List.length_pos_iff.2 h0
     rw [decide_eq_false (show ¬ l2.length = 0 by omega)]
     refine A35 ?_
     rw [b2.len, Gs, Acw hp, Co (by omega), As, Ar]
     have hlt : l2.length - 1 < l2.length := by omega
     have hlt' : l2.length - 1 < (cel l2).length := by rw [Gs]; exact hlt
     refine (b2.rd (fun e => h0 (by cases l2 with
      | nil => rfl
      | cons x l => exact absurd e (by unfold cel; simp)))).fld (j := 0) hlt' (by rw [Ks hlt]; exact Nat.zero_lt_succ _) ?_
     simp only [Ks hlt, Alw, List.getElem_cons_zero]
     unfold ub
     rw [Au, A5m _ 10 (by decide), Bw]
     have e2 : (l2.getLast?.map (·.1)) = some l2[l2.length - 1].1 := by rw [List.getLast?_eq_getElem?, List.getElem?_eq_getElem hlt]; rfl
     rw [e2] at hk'
     have e3 : decide (some l2[l2.length - 1].1 ≠ some (10 : UInt8)) = !decide (l2[l2.length - 1].1 = UInt8.ofNat 10) := by
      by_cases e : l2[l2.length - 1].1 = 10
      · rw [e]; rfl
      · have e' : ¬ l2[l2.length - 1].1 = UInt8.ofNat 10 := e
        rw [decide_eq_false e', decide_eq_true (show some l2[l2.length - 1].1 ≠ some (10 : UInt8) from fun h' => e (Option.some.inj h'))]; rfl
     rw [e3] at hk'
     exact hk'
 · rw [Bool.true_and]
   by_cases he : (l2.getLast?.map (·.1)) ≠ some 10
   · rw [if_pos ⟨hs, he⟩] at hk
     refine Cg (decide_eq_true he) ?_
     rw [Au7, Ae]
     refine Apf b2 (by rw [Gs]; omega) x12.1 fun v' h' hb' hk' => ?_
     refine hk h' v' (x12.kp (Nat.le_refl _) hk') ?_
     unfold cel at hb' ⊢
     rw [List.map_append]; exact hb'
   · rw [if_neg (fun e => he e.2)] at hk
     exact Bp (decide_eq_false he) (hk h2 v2 x12 b2)
theorem Avv (s : List UInt8) : (Ez s).length ≤ s.length + 1 ∧ ∀ x ∈ Ez s, x.2.1 ≤ s.length ∧ x.2.2 ≤ s.length := by
 have pb := Ub s 0
 have sb := Adl (Dd 0 s)
 rw [Nat.zero_add] at pb
 unfold Ez
 split
 · refine ⟨by rw [List.length_append, List.length_singleton]; omega, fun x hx => ?_⟩
   rcases List.mem_append.1 hx with hx | hx
   · exact pb.2 x (sb.2 x hx)
   · simp only [List.mem_singleton] at hx; subst hx; simp
 · exact ⟨by omega, fun x hx => pb.2 x (sb.2 x hx)⟩
theorem Bgp {h : H} {s : List UInt8} {Q : List Tok → Prop} {k : KV} (hl : s.length ≤ 999990) (h0 : 0 < (bts (Ez s)).length) (h10 : bt (bts (Ez s)) ((bts (Ez s)).length - 1) = 10) (hx : Lx (bts (Ez s)) Q 0 false [])
 (hk : ∀ h' q t w T, Q T → T.length ≤ s.length + 1 → Exh h h' → q.nat < h'.next.nat → h'.at q = .row t 4 0 114 w → Ct 43 8 h.next.nat h' (Bd t 0) (T.map Tok.cells) → k (.tuple [.slice q 0 1 4 false, .Ad]) h') : W1 (.func 46) [.str 1 102, S s] h k := by
 have cb := Avv s
 have hBl : (bts (Ez s)).length = (Ez s).length := by unfold bts; rw [List.length_map]
 refine w46 (n := 3 * (s.length + 1) + 20) Bn (g46 ?_)
 unfold Anl
 refine Bgn (by omega) fun h2 vr x2 b2 => ?_
 have rs : Rs h2 vr (bts (Ez s)) := ⟨_, b2.rd (fun e => by rw [hBl, ← Gs, e] at h0; simp at h0), Ayw fun x hx => by have := cb.2 x hx; omega⟩
 refine El ?_
 have ls : LS h2 (h2.new Atn) [] := by
  refine ⟨Exh.new, by rw [Bf]; omega, _, Ax _ _, .inl ⟨?_, rfl⟩⟩
  rw [Ap]; rfl
 refine hx h2 vr s.length (enc s) k rs (by omega) (fun T' b' hQ => ?_) _ (h2.new Atn) (by omega) (Nat.zero_le _) ls
 intro n h3 hn hT ls3
 obtain ⟨n, rfl⟩ : ∃ m, n = m + 3 := ⟨n - 3, by omega⟩
 refine A4o rs (by omega) h0 h10 ls3 fun h' q t w x' hq ha hb => ?_
 refine hk h' q t w T' hQ (by omega) (x2.trans x') hq ha ?_
 rcases hb with e | ⟨q', t', m, z, w', e1, e2, e3⟩
 · exact .inl e
 · exact .inr ⟨q', t', m, z, w', e1, by have := x2.1; omega, e3⟩
end Go.Den
