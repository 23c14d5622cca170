/-
  A part of the proof.
-/
import Derived.Test.YtcnmehbkpaoolaaGreatDoorLex7
import Derived.Test.YtcnmehbkpaoolaaGreatDoorLexh
import Derived.Test.YtcnmehbkpaoolaaGreatDoorLexs
namespace Go.Den
open Go.RowKit
set_option maxRecDepth 100000
theorem An7 {B : List UInt8} {i : Nat} (h : Go.Lx.Pw (B.drop i) = none) : bt B i ≠ 47 ∨ (bt B (i + 1) ≠ 47 ∧ bt B (i + 1) ≠ 42) := by
  unfold Go.Lx.Pw at h
  rw [show Go.Lx.at0 (B.drop i) 0 = bt B i from Ii, show Go.Lx.at0 (B.drop i) 1 = bt B (i + 1) from Ii] at h
  by_cases h0 : bt B i = 47
  · right
    rw [if_neg (fun e => e h0)] at h
    by_cases h1 : bt B (i + 1) = 47
    · rw [if_pos h1] at h; cases h
    · rw [if_neg h1] at h
      refine ⟨h1, fun h2 => ?_⟩
      rw [if_neg (fun e => e h2)] at h
      cases hb : Go.Lx.Sr ((B.drop i).drop 2) with
      | none => rw [hb] at h; cases h
      | some n => rw [hb] at h; cases h
  · exact .inl h0
theorem Lx.Bfr {B : List UInt8} {Q : List Tok → Prop} {i : Nat} {b : Bool} {T : List Tok} (_hl : B.length ≤ 1000000) (hi : i < B.length) (h10 : B[i] ≠ 10) (hw : Er B[i] = false) (hc : Go.Lx.Pw (B.drop i) = none) (hb : (Go.Lx.Gc (B.drop i)).2.2 = false)
    (hk : ∀ f t, Lx B Q (i + (Go.Lx.Gc (B.drop i)).2.1) false (T ++ [⟨(Go.Lx.Gc (B.drop i)).1, (B.drop i).take (Go.Lx.Gc (B.drop i)).2.1, b, f, t⟩])) : Lx B Q i b T := by
  have hle := Go.Lx.Aqt (s := B.drop i) (fun e => by have := congrArg List.length e; rw [List.length_drop] at this; simp at this; omega)
  rw [List.length_drop] at hle
  refine Lx.tok (C := fun kd e => kd = (Go.Lx.Gc (B.drop i)).1 ∧ e = i + (Go.Lx.Gc (B.drop i)).2.1) hi h10 hw (An7 hc) (fun h vr k hr hl hk => ?_) (fun kd e hC => ?_) (fun kd e f t hC => ?_)
  · refine Bcj hr hl hi fun h' x => ?_
    have := hk _ _ h' ⟨rfl, rfl⟩ x
    unfold nxV
    rw [hb]; exact this
  · rw [hC.2]; omega
  · obtain ⟨rfl, rfl⟩ := hC
    rw [Nat.add_sub_cancel_left]
    exact hk f t
theorem Asv {s : List UInt8} {n : Nat} {b : Bool} (h : Go.Lx.Pw s = some (n, b)) : 0 < n := by
  unfold Go.Lx.Pw at h
  split at h
  · cases h
  · rename_i h0
    have h0 : Go.Lx.at0 s 0 = 47 := by
      by_cases e : Go.Lx.at0 s 0 = 47
      · exact e
      · exact absurd e h0
    cases s with
    | nil => exact absurd h0 (by decide)
    | cons x s =>
      have hx : x = 47 := h0
      split at h
      · cases h
        rw [List.takeWhile_cons, if_pos (by rw [hx]; decide)]
        simp
      · split at h
        · cases h
        · split at h
          · cases h; omega
          · cases h; simp
theorem Lx.Bij {B : List UInt8} {Q : List Tok → Prop} {i n : Nat} {b : Bool} {T : List Tok} (hl : B.length ≤ 1000000) (hi : i < B.length) (h10 : B[i] ≠ 10) (hw : Er B[i] = false) (hc : Go.Lx.Pw (B.drop i) = some (n, false)) (hk : Lx B Q (i + n) true T) : Lx B Q i b T := by
  have hn := Asv hc
  intro h2 vr l1 c1 k hr hl hq m h hm hT hs
  obtain ⟨m, rfl⟩ : ∃ x, m = x + 1 := ⟨m - 1, by omega⟩
  have hr' := hr.ext hs.1
  refine Ag3 ?_
  unfold Vl
  rw [hr'.len, ilt, decide_eq_true hi]
  refine Bo rfl ?_
  rw [Be]
  refine hr'.at0 hi ?_
  unfold ub
  rw [Ar, Sj _ 10 10 rfl, decide_eq_false h10]
  refine Am rfl ?_
  rw [Be]
  refine hr'.at0 hi ?_
  unfold ub
  rw [Ar]
  refine Ek (c78 _) ?_
  rw [Ay, hw]
  refine Am rfl ?_
  refine Bck hr' hl hi ?_
  unfold Awz
  rw [hc]
  show ext 0 (.tuple [.int .i64 (Int.ofNat (i + n)), .bool false]) _
  rw [Ic, Ar, Ib, Ay, ilt, decide_eq_true (show i < i + n by omega)]
  refine Bo rfl ?_
  refine Am rfl ?_
  exact hk h2 vr l1 c1 k hr hl hq m h (by omega) (by omega) hs
def Ve : Nat → List UInt8 → Bool
  | 0, _ => false
  | _ + 1, [] => false
  | k + 1, x :: s =>
    if x = 10 then s.isEmpty
    else if Er x then Ve k s
    else match Go.Lx.Pw (x :: s) with
      | some (_, true) => false
      | some (j, false) => Ve k ((x :: s).drop j)
      | none => !(Go.Lx.Gc (x :: s)).2.2 && Ve k ((x :: s).drop (Go.Lx.Gc (x :: s)).2.1)
def bare (x : Tok) : Nat × List UInt8 × Bool := (x.kind, x.text, x.space)
theorem Lx.all {B : List UInt8} {Q : List Tok → Prop} (hl : B.length ≤ 1000000) : ∀ (k i : Nat) (b : Bool) (T : List Tok), Ve k (B.drop i) = true → (∀ T', T'.map bare = Go.Lx.Tl k (B.drop i) b → Q (T ++ T')) → Lx B Q i b T := by
  intro k
  induction k with
  | zero => intro i b T h; simp [Ve] at h
  | succ k ih =>
    intro i b T h hQ
    rcases Nat.lt_or_ge i B.length with hi | hi
    case inr => rw [List.drop_eq_nil_of_le hi] at h; simp [Ve] at h
    have hd := drop_cons hi
    rw [hd] at h hQ
    unfold Ve at h
    unfold Go.Lx.Tl at hQ
    by_cases h10 : B[i] = 10
    · rw [if_pos h10] at h hQ
      have hlen : B.drop (i + 1) = [] := by simpa using h
      have hi1 : B.length ≤ i + 1 := by have := congrArg List.length hlen; rw [List.length_drop] at this; simp at this; omega
      have e : i = B.length - 1 := by omega
      have := hQ [] rfl
      rw [List.append_nil] at this
      rw [e]; exact Lx.ends this
    · rw [if_neg h10] at h hQ
      by_cases hw : Er B[i] = true
      · rw [if_pos hw] at h
        rw [if_pos (show Go.Lx.Er B[i] = true from hw)] at hQ
        exact Lx.ws hi h10 hw (ih (i + 1) true T h hQ)
      · have hw' : Er B[i] = false := by simpa using hw
        rw [if_neg hw] at h
        rw [if_neg (show ¬ Go.Lx.Er B[i] = true from hw)] at hQ
        rw [← hd] at h hQ
        cases hc : Go.Lx.Pw (B.drop i) with
        | none =>
          rw [hc] at h hQ
          simp only [Bool.and_eq_true, Bool.not_eq_true'] at h
          rw [List.drop_drop] at h
          refine Lx.Bfr hl hi h10 hw' hc h.1 fun f t => ih _ false _ h.2 fun T' hT' => ?_
          rw [List.append_assoc]
          refine hQ _ ?_
          rw [List.singleton_append, List.map_cons, hT', List.drop_drop]
          rfl
        | some p =>
          obtain ⟨n, o⟩ := p
          rw [hc] at h hQ
          cases o with
          | true => simp at h
          | false =>
            simp only [List.drop_drop] at h hQ
            exact Lx.Bij hl hi h10 hw' hc (ih _ true T h hQ)
end Go.Den
namespace Go.Den
open Go.RowKit
set_option maxRecDepth 100000
open Go.Lx (Rn Hs)
def Ajp (r : Rn) : List AV := [ub r.1, .int .i64 (.ofNat r.2.1), .int .i64 (.ofNat r.2.2)]
def cel (l : List Rn) : List (List AV) := l.map Ajp
theorem Ge (l : List Rn) : (cel l).length = l.length := by unfold cel; rw [List.length_map]
theorem Kj {l : List Rn} {i : Nat} (h : i < l.length) (h' : i < (cel l).length) : (cel l)[i] = Ajp l[i] := List.getElem_map ..
theorem Aim {x y : Rn} {r : List Rn} : Hs (x :: y :: r) = if x.1 = 92 ∧ y.1 = 10 then Hs r else x :: Hs (y :: r) := by rw [Hs]
theorem Ao8 {l : List Rn} {i : Nat} (h : i + 1 < l.length) (e : l[i].1 = 92) (e1 : l[i + 1].1 = 10) : Hs (l.drop i) = Hs (l.drop (i + 2)) := by
  rw [List.drop_eq_getElem_cons (show i < l.length by omega), List.drop_eq_getElem_cons h, Aim, if_pos ⟨e, e1⟩]
theorem Au6 {l : List Rn} {i : Nat} (h : i < l.length) (hs : ¬ (l[i].1 = 92 ∧ ∃ h1 : i + 1 < l.length, l[i + 1].1 = 10)) : Hs (l.drop i) = l[i] :: Hs (l.drop (i + 1)) := by
  rw [List.drop_eq_getElem_cons h]
  rcases Nat.lt_or_ge (i + 1) l.length with h1 | h1
  · rw [List.drop_eq_getElem_cons h1, Aim, if_neg (fun e => hs ⟨e.1, h1, e.2⟩)]
  · rw [List.drop_eq_nil_of_le h1]; rw [Hs, Hs]
theorem Ae8 {hE : H} {l : List Rn} {v0 : AV} {k : KV} (hl : l.length ≤ 1000000) (hr : Rd 3 hE v0 (cel l)) :
    ∀ (n i : Nat) (acc : List Rn) {h : H} {v : AV}, 2 * (l.length - i) < n → i ≤ l.length → acc.length ≤ i → Exh hE h → Ev 174 3 hE.next.nat h v (cel acc) →
    (∀ h' v', Exh hE h' → Ev 174 3 hE.next.nat h' v' (cel (acc ++ Hs (l.drop i))) → k v' h') → (Yh W1 k n).a1 v0 v (Int.ofNat i) h
  | 0, _, _, _, _, hn, _, _, _, _, _ => absurd hn (Nat.not_lt_zero _)
  | n + 1, i, acc, h, v, hn, hi, ha, hx, hb, hk => by
    refine Ard ?_
    unfold Xy
    have hr' := hr.ext hx
    rw [hr'.len, Ge, ilt]
    refine Bk (fun e => ?_) (fun e => ?_)
    · have e : i < l.length := of_decide_eq_true e
      have e' : i < (cel l).length := by rw [Ge]; exact e
      obtain ⟨m, rfl⟩ : ∃ m, n = m + 1 := ⟨n - 1, by omega⟩
      refine Yr (hr'.fld (j := 0) e' (by rw [Kj e]; exact Nat.zero_lt_succ _) ?_)
      simp only [Kj e, Ajp, List.getElem_cons_zero]
      unfold ub
      rw [Ar, Awf _ 92 (by decide)]
      refine Ip (b := decide (i + 1 < l.length)) (fun k' hk' => Fe (by omega) ?_) ?_
      · rw [hr'.len, Ge, ilt]; exact hk'
      have rest : ¬ (l[i].1 = 92 ∧ ∃ h1 : i + 1 < l.length, l[i + 1].1 = 10) → De (Int.ofNat i) fun m22 => Cc 3 m22 v0 fun v23 => ldn 3 v23 h fun v24 =>
          oK (Ak env 171 (fun e ei => Ae 1 [(0, v24)] h e ei)) fun v25 h26 => oK (Bw env .append [171, 171] [v, v25] h26) fun v27 h28 => (Yh W1 k (m + 1)).a2 v0 v27 (Int.ofNat i) h28 := fun hs => by
        refine Yr (hr'.all e' (by rw [Kj e]; rfl) ?_)
        rw [Kj e]
        unfold Ajp
        refine Amy hb (by rw [Ge]; omega) hx.1 fun v' h' hb' hk' => ?_
        refine Arc ?_
        unfold Xx
        refine Fe (by omega) ?_
        have ec : cel (acc ++ [l[i]]) = cel acc ++ [[ub l[i].1, .int .i64 (.ofNat l[i].2.1), .int .i64 (.ofNat l[i].2.2)]] := by unfold cel; rw [List.map_append]; rfl
        refine Ae8 hl hr m (i + 1) (acc ++ [l[i]]) (by omega) e (by rw [List.length_append, List.length_singleton]; omega) (hx.kp (Nat.le_refl _) hk') (by rw [ec]; exact hb') fun h2 v2 a b => ?_
        rw [Au6 e hs] at hk
        refine hk h2 v2 a ?_
        rw [List.append_assoc] at b; exact b
      refine Lp (fun e2 => ?_) (fun e2 => ?_)
      · simp only [Bool.and_eq_true, decide_eq_true_eq] at e2
        have e2' : i + 1 < (cel l).length := by rw [Ge]; exact e2.2
        refine Fe (by omega) (Yr (hr'.fld (j := 0) e2' (by rw [Kj e2.2]; exact Nat.zero_lt_succ _) ?_))
        simp only [Kj e2.2, Ajp, List.getElem_cons_zero]
        unfold ub
        rw [Ar, Awf _ 10 (by decide)]
        refine Bk (fun e3 => ?_) (fun e3 => ?_)
        · have e3 : l[i + 1].1 = 10 := of_decide_eq_true e3
          refine Fe (by omega) ?_
          refine Arc ?_
          unfold Xx
          refine Fe (by omega) ?_
          rw [Ao8 e2.2 e2.1 e3] at hk
          exact Ae8 hl hr m (i + 2) acc (by omega) e2.2 (by omega) hx hb hk
        · exact rest fun hs => by
            obtain ⟨_, h1, h2⟩ := hs
            exact absurd h2 (of_decide_eq_false e3)
      · exact Am rfl (rest fun hs => by
          obtain ⟨h0, h1, _⟩ := hs
          have h0 : l[i].1 = UInt8.ofNat 92 := h0
          rw [decide_eq_true h0, decide_eq_true h1] at e2; cases e2)
    · have e : ¬ i < l.length := of_decide_eq_false e
      rw [List.drop_eq_nil_of_le (by omega), show Hs [] = [] by rw [Hs], List.append_nil] at hk
      exact hk _ _ hx hb
end Go.Den
namespace Go.Den
open Go.RowKit
set_option maxRecDepth 100000
open Go.Lx (Rn Hs Cr Ga tri Uw Ab3 bts)
def A0o (o : Option (UInt8 × UInt8)) : AV := match o with
  | some p => .tuple [ub p.2, .bool true]
  | none => .tuple [.int .u8 (.ofNat 0), .bool false]
theorem Atc {c : UInt8} {k : KV} {h : H} : ∀ (n i : Nat), 9 - i < n → i ≤ 9 → k (A0o (((Uw.zip Ab3).drop i).find? fun p => p.1 == c)) h → (Agd W1 k n).a1 (Int.ofNat c.toNat) (Int.ofNat i) h
  | 0, _, hn, _, _ => absurd hn (Nat.not_lt_zero _)
  | n + 1, i, hn, hi, hk => by
    refine A24 ?_
    unfold Aco
    rw [ilt]
    refine Bk (fun e => ?_) (fun e => ?_)
    · have e : i < 9 := of_decide_eq_true e
      have e1 : i < Uw.length := e
      have e2 : i < Ab3.length := e
      have e3 : i < (Uw.zip Ab3).length := e
      rw [List.drop_eq_getElem_cons e3, List.find?_cons, List.getElem_zip] at hk
      rw [Be]
      refine Iv (s := Uw) e1 ?_
      rw [Sk]
      refine Bk (fun ec => ?_) (fun ec => ?_)
      · have ec : Uw[i] = c := of_decide_eq_true ec
        rw [show (Uw[i] == c) = true from beq_iff_eq.2 ec] at hk
        rw [Be]
        refine Iv (s := Ab3) e2 ?_
        exact hk
      · have ec : ¬ Uw[i] = c := of_decide_eq_false ec
        rw [show (Uw[i] == c) = false from beq_eq_false_iff_ne.2 ec] at hk
        rw [Dx, Dv (by omega), As]
        exact Atc n (i + 1) (by omega) (by omega) hk
    · have e : i = 9 := by have := of_decide_eq_false e; omega
      subst e
      exact hk
theorem Bix (c : UInt8) : Pure PP G h0 181 [ub c] (A0o ((Uw.zip Ab3).find? fun p => p.1 == c)) := by
  refine A7j (n := 11) Ca (Bhb ?_)
  unfold Acp
  exact Atc 10 0 (by omega) (by omega) rfl
theorem Afv (c : UInt8) : A0o ((Uw.zip Ab3).find? fun p => p.1 == c) = (match tri c with | some d => .tuple [ub d, .bool true] | none => .tuple [.int .u8 (.ofNat 0), .bool false]) := by
  unfold tri
  cases (Uw.zip Ab3).find? fun p => p.1 == c with
  | none => rfl
  | some p => rfl
theorem Ank {s : List UInt8} {i : Nat} (h : i < s.length) (hn : ∀ h2 : i + 2 < s.length, s[i] = 63 → s[i + 1] = 63 → tri s[i + 2] = none) : Cr i (s.drop i) = (s[i], i, i + 1) :: Cr (i + 1) (s.drop (i + 1)) := by
  rw [List.drop_eq_getElem_cons h]
  rcases Nat.lt_or_ge (i + 1) s.length with h1 | h1
  · rw [List.drop_eq_getElem_cons h1]
    rcases Nat.lt_or_ge (i + 2) s.length with h2 | h2
    · rw [List.drop_eq_getElem_cons h2, Cr]
      by_cases e : s[i] = 63 ∧ s[i + 1] = 63
      · rw [if_pos e, hn h2 e.1 e.2]
      · rw [if_neg e]
    · rw [List.drop_eq_nil_of_le (by omega), Cr, Cr]
  · rw [List.drop_eq_nil_of_le h1, Cr, Cr]
theorem Aiw {s : List UInt8} {i : Nat} (h2 : i + 2 < s.length) (e1 : s[i] = 63) (e2 : s[i + 1] = 63) {d : UInt8} (e3 : tri s[i + 2] = some d) : Cr i (s.drop i) = (d, i, i + 3) :: Cr (i + 3) (s.drop (i + 3)) := by
  rw [List.drop_eq_getElem_cons (show i < s.length by omega), List.drop_eq_getElem_cons (show i + 1 < s.length by omega), List.drop_eq_getElem_cons h2, Cr, if_pos ⟨e1, e2⟩, e3]
theorem Bf6 {h : H} {Q : (Bool → H → Prop) → Prop} {k : Bool → H → Prop} (hq : Q k) : Al (fun k1 => gate false false (Q k1) (k1 true h)) k := hq
theorem A3n (x : UInt8) (n : Nat) (hn : n < 256) : Av (Int.ofNat x.toNat) (Int.ofNat n) = decide (x = UInt8.ofNat n) := toNat_eq x n hn
section
variable {hE : H} {s : List UInt8} {k : KV} (hl : s.length ≤ 1000000)
include hl
theorem Axc (n : Nat) : ∀ (i : Nat) (acc : List Rn) {h : H} {v : AV}, 2 * (s.length - i) < n → i ≤ s.length → acc.length ≤ i → Exh hE h → Ev 174 3 hE.next.nat h v (cel acc) →
    (∀ h' v', Exh hE h' → Ev 174 3 hE.next.nat h' v' (cel (acc ++ Cr i (s.drop i))) → k v' h') → (Yg W1 k n).a1 s.length (enc s) v (Int.ofNat i) h := by
  induction n using Nat.strongRecOn with
  | _ n ih =>
    intro i acc h v hn hi ha hx hb hk
    obtain ⟨n, rfl⟩ : ∃ m, n = m + 1 := ⟨n - 1, by omega⟩
    refine A3j ?_
    unfold Adl
    rw [ilt]
    refine Bk (fun e => ?_) (fun e => ?_)
    · have e : i < s.length := of_decide_eq_true e
      obtain ⟨n, rfl⟩ : ∃ m, n = m + 1 := ⟨n - 1, by omega⟩
      have ec : ∀ (l : List Rn) (r : Rn), cel (l ++ [r]) = cel l ++ [[ub r.1, .int .i64 (.ofNat r.2.1), .int .i64 (.ofNat r.2.2)]] := fun l r => by unfold cel; rw [List.map_append]; rfl
      have one : ∀ h', (∀ h2 : i + 2 < s.length, s[i] = 63 → s[i + 1] = 63 → tri s[i + 2] = none) → h' = h → (Yg W1 k (n + 1)).a2 s.length (enc s) v (Int.ofNat i) h' := fun h' hno e' => by
        subst e'
        refine A3i ?_
        unfold Adk
        rw [Be]
        refine Iv e ?_
        rw [Dx, Dv (by omega), As, Ar6, Ag]
        refine Amy hb (by rw [Ge]; omega) hx.1 fun v' h2 hb' hk' => ?_
        rw [As]
        refine ih n (by omega) (i + 1) (acc ++ [(s[i], i, i + 1)]) (by omega) e (by rw [List.length_append, List.length_singleton]; omega) (hx.kp (Nat.le_refl _) hk') (by rw [ec]; exact hb') fun h3 v3 a b => ?_
        refine hk h3 v3 a ?_
        rw [Ank e hno]
        rw [List.append_assoc] at b; exact b
      rw [Dx, Dv (by omega), As]
      refine Ip (b := decide (s[i] = 63)) (fun k' hk' => ?_) ?_
      · rw [Be]
        refine Iv e ?_
        rw [A3n _ 63 (by decide)]; exact hk'
      rw [ilt]
      refine Lp (fun e1 => ?_) (fun e1 => ?_)
      · rw [Bool.and_eq_true, decide_eq_true_eq, decide_eq_true_eq] at e1
        rw [Dx, Dv (by omega), As, Be]
        refine Iv (show i + 1 < s.length by omega) ?_
        rw [A3n _ 63 (by decide)]
        refine Bk (fun e2 => ?_) (fun e2 => ?_)
        · have e2 : s[i + 1] = 63 := of_decide_eq_true e2
          rw [As, Be]
          refine Iv e1.1 ?_
          refine Ek (Bix s[i + 2]) ?_ rfl (by rw [Afv]; cases tri s[i + 2] <;> rfl)
          rw [Afv]
          cases ht : tri s[i + 2] with
          | none =>
            show ext 0 (.tuple [.int .u8 (.ofNat 0), .bool false]) _
            rw [Ic, Ar, Ib, Ay]
            exact Am rfl (one _ (fun _ _ _ => ht) rfl)
          | some d =>
            show ext 0 (.tuple [ub d, .bool true]) _
            rw [Ic]
            unfold ub
            rw [Ar, Ib, Ay]
            refine Bo rfl ?_
            rw [Dx, Dv (by omega), As, Ar6, Ag]
            refine Amy hb (by rw [Ge]; omega) hx.1 fun v' h2 hb' hk' => ?_
            rw [As]
            refine ih (n + 1) (by omega) (i + 3) (acc ++ [(d, i, i + 3)]) (by omega) (by omega) (by rw [List.length_append, List.length_singleton]; omega) (hx.kp (Nat.le_refl _) hk') (by rw [ec]; exact hb') fun h3 v3 a b => ?_
            refine hk h3 v3 a ?_
            rw [Aiw e1.1 e1.2 e2 ht]
            rw [List.append_assoc] at b; exact b
        · exact one _ (fun _ _ h' => absurd h' (of_decide_eq_false e2)) rfl
      · exact Am rfl (one _ (fun h2 h' _ => by rw [decide_eq_true h2, decide_eq_true h'] at e1; cases e1) rfl)
    · have e : ¬ i < s.length := of_decide_eq_false e
      rw [List.drop_eq_nil_of_le (by omega), show Cr i [] = [] by rw [Cr], List.append_nil] at hk
      exact hk _ _ hx hb
theorem A6g {h : H} (hk : ∀ h' v', Exh h h' → Ev 174 3 h.next.nat h' v' (cel (Cr 0 s)) → k v' h') : W1 (.func 128) [S s] h k := by
  refine A7z (n := 2 * s.length + 1 + 1) Ca (Bhr ?_)
  unfold Adm
  refine Axc hl (2 * s.length + 1) 0 [] (by omega) (Nat.zero_le _) (Nat.le_refl _) .refl (.inl ⟨rfl, rfl⟩) fun h' v' a b => hk h' v' a b
end
theorem Tc : ∀ (s : List UInt8) (i : Nat), (Cr i s).length ≤ s.length ∧ ∀ x ∈ Cr i s, x.2.1 ≤ i + s.length ∧ x.2.2 ≤ i + s.length
  | [], i => by rw [Cr]; exact ⟨Nat.le_refl _, fun x hx => by cases hx⟩
  | [a], i => by
    rw [Cr]
    refine ⟨Nat.le_refl _, fun x hx => ?_⟩
    simp only [List.mem_singleton] at hx; subst hx
    simp
  | [a, b], i => by
    rw [Cr]
    refine ⟨Nat.le_refl _, fun x hx => ?_⟩
    simp only [List.mem_cons, List.not_mem_nil, or_false] at hx
    rcases hx with rfl | rfl
    · simp only [List.length_cons, List.length_nil]; omega
    · simp
  | a :: b :: c :: r, i => by
    have h1 := Tc (b :: c :: r) (i + 1)
    have h2 := Tc r (i + 3)
    have g1 : ((a, i, i + 1) :: Cr (i + 1) (b :: c :: r)).length ≤ (a :: b :: c :: r).length ∧ ∀ x ∈ (a, i, i + 1) :: Cr (i + 1) (b :: c :: r), x.2.1 ≤ i + (a :: b :: c :: r).length ∧ x.2.2 ≤ i + (a :: b :: c :: r).length := by
      refine ⟨by simp only [List.length_cons] at h1 ⊢; omega, fun x hx => ?_⟩
      rcases List.mem_cons.1 hx with rfl | hx
      · simp only [List.length_cons]; omega
      · have := h1.2 x hx
        simp only [List.length_cons] at this ⊢; omega
    rw [Cr]
    split
    · split
      · refine ⟨by simp only [List.length_cons]; omega, fun x hx => ?_⟩
        rcases List.mem_cons.1 hx with rfl | hx
        · simp only [List.length_cons]; omega
        · have := h2.2 x hx
          simp only [List.length_cons] at this ⊢; omega
      · exact g1
    · exact g1
theorem Ab4 : ∀ (l : List Rn), (Hs l).length ≤ l.length ∧ ∀ x ∈ Hs l, x ∈ l
  | [] => by rw [Hs]; exact ⟨Nat.le_refl _, fun x hx => hx⟩
  | [x] => by rw [Hs]; exact ⟨Nat.le_refl _, fun x hx => hx⟩
  | x :: y :: r => by
    have h1 := Ab4 r
    have h2 := Ab4 (y :: r)
    rw [Aim]
    split
    · exact ⟨by simp only [List.length_cons]; omega, fun z hz => by simp [h1.2 z hz]⟩
    · refine ⟨by simp only [List.length_cons] at h2 ⊢; omega, fun z hz => ?_⟩
      rcases List.mem_cons.1 hz with rfl | hz
      · simp
      · have := h2.2 z hz; simp only [List.mem_cons] at this ⊢; exact .inr this
theorem Avj {l : List Rn} (hb : ∀ x ∈ l, x.2.1 ≤ 1000001 ∧ x.2.2 ≤ 1000001) : Rns (cel l) (bts l) := by
  refine ⟨by rw [Ge]; unfold bts; rw [List.length_map], fun i hi hi' => ?_⟩
  have h1 : i < l.length := by rw [Ge] at hi'; exact hi'
  obtain ⟨b1, b2⟩ := hb _ (List.getElem_mem h1)
  refine ⟨l[i].2.1, l[i].2.2, b1, b2, ?_⟩
  rw [Kj h1]
  unfold Ajp rn
  have : (bts l)[i] = l[i].1 := List.getElem_map ..
  rw [this]
theorem Ev.rd' {e : TypeId} {sz lo : Nat} {h : H} {v : AV} {L : List (List AV)} (hb : Ev e sz lo h v L) : (v = .Cd ∧ L = []) ∨ Rd sz h v L := by
  rcases hb with ⟨a, b⟩ | ⟨q, t, m, z, w, rfl, _, h2, h3, h4, _, h6⟩
  · exact .inl ⟨a, b⟩
  · exact .inr ⟨q, 0, t, m, z, e, w, false, rfl, h2, h3, by omega, h6⟩
theorem A6h {l : List Rn} {lo : Nat} {v0 : AV} {h : H} {k : KV} (hl : l.length ≤ 1000000) (hb : Ev 174 3 lo h v0 (cel l)) (hk : ∀ h' v', Exh h h' → Ev 174 3 h.next.nat h' v' (cel (Hs l)) → k v' h') : W1 (.func 127) [v0] h k := by
  refine A70 (n := 2 * l.length + 1 + 1) Ca (Bhs ?_)
  unfold Adn
  rcases hb.rd' with ⟨rfl, e⟩ | hr
  · have : l = [] := by cases l with
      | nil => rfl
      | cons x l => exact absurd e (by unfold cel; simp)
    subst this
    refine Ard ?_
    unfold Xy
    rw [Anp, ilt]
    exact Am rfl (hk h .Cd .refl (.inl ⟨rfl, by rw [Hs]; rfl⟩))
  · exact Ae8 hl hr (2 * l.length + 1) 0 [] (by omega) (Nat.zero_le _) (Nat.le_refl _) .refl (.inl ⟨rfl, rfl⟩) fun h' v' a b => hk h' v' a b
theorem Bf5 {h : H} {Q : (Bool → H → Prop) → Prop} {k : Bool → H → Prop} (hk : k true h) : Al (fun k1 => gate false true (Q k1) (k1 true h)) k := hk
theorem Bcl {s : List UInt8} {h : H} {k : KV} (hl : s.length ≤ 999999) (hk : ∀ h' v', Exh h h' → Ev 174 3 h.next.nat h' v' (cel (Ga s)) → k v' h') : W1 (.func 77) [S s] h k := by
  refine w77 (n := 1) Ca (g77 ?_)
  unfold Akv
  have pb := Tc s 0
  have sb := Ab4 (Cr 0 s)
  refine A6g (by omega) fun h1 v1 x1 b1 => ?_
  refine A6h (by omega) b1 fun h2 v2 x2 b2 => ?_
  have x12 := x1.trans x2
  have b2 : Ev 174 3 h.next.nat h2 v2 (cel (Hs (Cr 0 s))) := by
    rcases b2 with ⟨a, b⟩ | ⟨q, t, m, z, w, e1, e2, e3⟩
    · exact .inl ⟨a, b⟩
    · exact .inr ⟨q, t, m, z, w, e1, by have := x1.1; omega, e3⟩
  unfold Ga at hk
  rw [ilt]
  by_cases hs : s = []
  · subst hs
    rw [if_neg (fun e => e.1 rfl)] at hk
    rw [show decide (0 < ([] : List UInt8).length) = false from rfl]
    refine Lp (fun e => nomatch e) (fun _ => Am rfl ?_)
    exact hk h2 v2 x12 b2
  have hpos : 0 < s.length := List.length_pos_iff.2 hs
  rw [decide_eq_true hpos]
  generalize hL2 : Hs (Cr 0 s) = l2 at *
  refine Ip (b := decide ((l2.getLast?.map (·.1)) ≠ some 10)) (fun k' hk' => ?_) ?_
  · rw [b2.len, Ge, Nl]
    by_cases h0 : l2 = []
    · subst h0
      exact Bf5 hk'
    · have hp : 0 < l2.length := List.length_pos_iff.2 h0
      rw [decide_eq_false (show ¬ l2.length = 0 by omega)]
      refine Bf6 ?_
      rw [b2.len, Ge, Al2 hp, Dv (by omega), As, Be]
      have hlt : l2.length - 1 < l2.length := by omega
      have hlt' : l2.length - 1 < (cel l2).length := by rw [Ge]; exact hlt
      refine (b2.rd (fun e => h0 (by cases l2 with
        | nil => rfl
        | cons x l => exact absurd e (by unfold cel; simp)))).fld (j := 0) hlt' (by rw [Kj hlt]; exact Nat.zero_lt_succ _) ?_
      simp only [Kj hlt, Ajp, List.getElem_cons_zero]
      unfold ub
      rw [Ar, A3n _ 10 (by decide), Bv]
      have e2 : (l2.getLast?.map (·.1)) = some l2[l2.length - 1].1 := by rw [List.getLast?_eq_getElem?, List.getElem?_eq_getElem hlt]; rfl
      rw [e2] at hk'
      have e3 : decide (some l2[l2.length - 1].1 ≠ some (10 : UInt8)) = !decide (l2[l2.length - 1].1 = UInt8.ofNat 10) := by
        by_cases e : l2[l2.length - 1].1 = 10
        · rw [e]; rfl
        · have e' : ¬ l2[l2.length - 1].1 = UInt8.ofNat 10 := e
          rw [decide_eq_false e', decide_eq_true (show some l2[l2.length - 1].1 ≠ some (10 : UInt8) from fun h' => e (Option.some.inj h'))]; rfl
      rw [e3] at hk'
      exact hk'
  · rw [Bool.true_and]
    by_cases he : (l2.getLast?.map (·.1)) ≠ some 10
    · rw [if_pos ⟨hs, he⟩] at hk
      refine Bo (decide_eq_true he) ?_
      rw [Ar6, Ag]
      refine Amy b2 (by rw [Ge]; omega) x12.1 fun v' h' hb' hk' => ?_
      refine hk h' v' (x12.kp (Nat.le_refl _) hk') ?_
      unfold cel at hb' ⊢
      rw [List.map_append]; exact hb'
    · rw [if_neg (fun e => he e.2)] at hk
      exact Am (decide_eq_false he) (hk h2 v2 x12 b2)
theorem Asx (s : List UInt8) : (Ga s).length ≤ s.length + 1 ∧ ∀ x ∈ Ga s, x.2.1 ≤ s.length ∧ x.2.2 ≤ s.length := by
  have pb := Tc s 0
  have sb := Ab4 (Cr 0 s)
  rw [Nat.zero_add] at pb
  unfold Ga
  split
  · refine ⟨by rw [List.length_append, List.length_singleton]; omega, fun x hx => ?_⟩
    rcases List.mem_append.1 hx with hx | hx
    · exact pb.2 x (sb.2 x hx)
    · simp only [List.mem_singleton] at hx; subst hx; simp
  · exact ⟨by omega, fun x hx => pb.2 x (sb.2 x hx)⟩
theorem Bcm {h : H} {s : List UInt8} {Q : List Tok → Prop} {k : KV} (hl : s.length ≤ 999990) (h0 : 0 < (bts (Ga s)).length) (h10 : bt (bts (Ga s)) ((bts (Ga s)).length - 1) = 10) (hx : Lx (bts (Ga s)) Q 0 false [])
    (hk : ∀ h' q t w T, Q T → T.length ≤ s.length + 1 → Exh h h' → q.nat < h'.next.nat → h'.at q = .row t 4 0 114 w → Ev 43 8 h.next.nat h' (Cg t 0) (T.map Tok.cells) → k (.tuple [.slice q 0 1 4 false, .Cd]) h') : W1 (.func 46) [.str 1 102, S s] h k := by
  have cb := Asx s
  have hBl : (bts (Ga s)).length = (Ga s).length := by unfold bts; rw [List.length_map]
  refine w46 (n := 3 * (s.length + 1) + 20) Ca (g46 ?_)
  unfold Ak4
  refine Bcl (by omega) fun h2 vr x2 b2 => ?_
  have rs : Rs h2 vr (bts (Ga s)) := ⟨_, b2.rd (fun e => by rw [hBl, ← Ge, e] at h0; simp at h0), Avj fun x hx => by have := cb.2 x hx; omega⟩
  refine Dk ?_
  have ls : LS h2 (h2.new Aqn) [] := by
    refine ⟨Exh.new, by rw [Bq]; omega, _, Cm _ _, .inl ⟨?_, rfl⟩⟩
    rw [Bl]; rfl
  refine hx h2 vr s.length (enc s) k rs (by omega) (fun T' b' hQ => ?_) _ (h2.new Aqn) (by omega) (Nat.zero_le _) ls
  intro n h3 hn hT ls3
  obtain ⟨n, rfl⟩ : ∃ m, n = m + 3 := ⟨n - 3, by omega⟩
  refine A2y rs (by omega) h0 h10 ls3 fun h' q t w x' hq ha hb => ?_
  refine hk h' q t w T' hQ (by omega) (x2.trans x') hq ha ?_
  rcases hb with e | ⟨q', t', m, z, w', e1, e2, e3⟩
  · exact .inl e
  · exact .inr ⟨q', t', m, z, w', e1, by have := x2.1; omega, e3⟩
end Go.Den
