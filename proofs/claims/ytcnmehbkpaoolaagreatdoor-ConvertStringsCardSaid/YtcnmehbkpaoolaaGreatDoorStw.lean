/-
 Part of the proof.
-/
import Derived.Test.YtcnmehbkpaoolaaGreatDoorStc
namespace Go.Den
open Go.RowKit
set_option maxRecDepth 100000
def Stz (h : H) (v : AV) (l : List (List UInt8)) : Prop := (v = .Ad ∧ l = []) ∨ ∃ b c m, v = .slice b 0 l.length 1 false ∧ b.nat < h.next.nat ∧ h.at b = .ext c m ∧ l.length ≤ m ∧ ∀ i (hi : i < l.length), c i = S l[i]
theorem Stz.len {h : H} {v : AV} {l : List (List UInt8)} (hb : Stz h v l) {K : Nat → Prop} : Ef v K = K l.length := by
 rcases hb with ⟨rfl, rfl⟩ | ⟨b, c, m, rfl, _⟩ <;> rfl
theorem Stz.get {h : H} {v : AV} {l : List (List UInt8)} (hb : Stz h v l) {i : Nat} (hi : i < l.length) {K : Nat → Nat → Prop} (hk : K l[i].length (enc l[i])) : Ca 1 i v fun v' => Go.Den.ld1 v' h fun v => asS v K := by
 rcases hb with ⟨_, rfl⟩ | ⟨b, c, m, rfl, _, h1, h2, h3⟩
 · exact absurd hi (Nat.not_lt_zero _)
 · refine Rm hi ?_
   rw [Nat.zero_add, Nat.mul_one]
   refine A4s h1 (by omega) ?_
   rw [h3 i hi, Ch]; exact hk
theorem Stz.ext {h h' : H} {v : AV} {l : List (List UInt8)} (hb : Stz h v l) (x : Exh h h') : Stz h' v l := by
 rcases hb with ⟨rfl, rfl⟩ | ⟨b, c, m, rfl, h0, h1, h2⟩
 · exact .inl ⟨rfl, rfl⟩
 · exact .inr ⟨b, c, m, rfl, Nat.lt_of_lt_of_le h0 x.1, by rw [x.2 b h0]; exact h1, h2⟩
theorem A80 {m lo : Nat} {h : H} {v0 vo vd : AV} {a b : CT} {D : List DT} {l : List (List UInt8)} {lt : List UInt8} {n : Nat} (he : Jz h) (hv : Stz h v0 l) (hl : l.flatten.length ≤ 1000) (hlt : lt.length ≤ 2) (ho : Ct 40 7 lo h vo ([a, b].map CT.cells)) (hd : Ct 48 4 lo h vd (D.map DT.cells))
 (h1 : a.kind = 6) (h2 : a.text = lt ++ Gq l.flatten) (h3 : a.cnt = l.length) (h4 : D.length = n) (h5 : n ≤ 1) : (r5 W1 kTn (m + 1)).a5 v0 l.flatten.length (enc l.flatten) vo vd lt.length (enc lt) (Int.ofNat n) h := by
 refine Bj3 ?_
 unfold Ayn
 have hr : Rd 7 h vo ([a, b].map CT.cells) := ho.rd (by simp)
 rw [ho.len, show ([a, b].map CT.cells).length = 2 from rfl, Ko]
 refine Gu (fun _ => ?_) (fun e => by cases e)
 refine hr.fld (i := 0) (j := 0) (by simp) (Nat.zero_lt_succ _) ?_
 show asI .i64 (.int .i64 (.ofNat a.kind)) _
 rw [Au, h1, Ko]
 refine Gu (fun _ => ?_) (fun e => by cases e)
 refine hr.elem (i := 0) (by simp) fun q o hq _ ha => ?_
 have ha : AtP h q o a.cells := ha
 rw [Ba]
 refine ha.ld1 (j := 1) (by show 1 < 7; decide) ?_
 show asS (S a.text) _
 rw [Ch]
 refine c24 (by omega) fun h6 x6 => ?_
 rw [Ch]
 refine (ha.ext x6 hq).ld1 (j := 1) (by show 1 < 7; decide) ?_
 show asS (S a.text) _
 rw [Ch]
 refine Ac0 avS ?_
 have hqb := Pw l.flatten
 refine Oj (s := lt) (t := Gq l.flatten) (by omega) ?_
 rw [Dc, h2, decide_eq_true rfl]
 refine Gu (fun _ => ?_) (fun e => by cases e)
 have hr6 := hr.ext x6
 have hv6 := hv.ext x6
 have hd6 := hd.ext x6
 have he6 := he.keep x6.1 x6.2
 refine hr6.fld (i := 0) (j := 6) (by simp) (by show 6 < 7; decide) ?_
 show asI .i64 (.int .i64 (.ofNat a.cnt)) _
 rw [Au, hv6.len, h3, Ko, decide_eq_true rfl]
 refine Gu (fun _ => ?_) (fun e => by cases e)
 rw [hd6.len, List.length_map, h4, Ko, decide_eq_true rfl]
 refine Gu (fun _ => ?_) (fun e => by cases e)
 have fin : Am (fun k153 => gate true true (W1 (.func 15) [] h6 fun v156 h157 => asB v156 fun b158 => k153 b158 h157) (k153 false h6)) fun b155 h154 => kTn (.bool b155) h154 := by
  refine Gu (fun _ => ?_) (fun e => by cases e)
  refine Yr he6 ?_
  rw [Ce]
 refine Wd (fun e => ?_) (fun _ => fin)
 have hn : n = 1 := by have := of_decide_eq_false e; omega
 have hD : D.map DT.cells ≠ [] := fun e => by have := congrArg List.length e; rw [List.length_map, h4, hn] at this; cases this
 have hi : 0 < (D.map DT.cells).length := List.length_pos_iff.2 hD
 have hi' : 0 < D.length := by rwa [List.length_map] at hi
 have hc : (D.map DT.cells)[0] = D[0].cells := List.getElem_map ..
 refine (hd6.rd hD).fld (i := 0) (j := 0) hi (by rw [hc]; exact Nat.zero_lt_succ _) ?_
 simp only [hc]
 show asI .i64 (.int .i64 (.ofNat 19)) _
 rw [Au, Ko, decide_eq_true rfl]
 exact fin
theorem Bl9 {m lo w o : Nat} {h : H} {v0 vo vd : AV} {a b : CT} {D : List DT} {l : List (List UInt8)} (he : Jz h) (hv : Stz h v0 l) (hl : l.flatten.length ≤ 1000) (hw : w ≤ l.length) (ho : Ct 40 7 lo h vo ([a, b].map CT.cells)) (hd : Ct 48 4 lo h vd (D.map DT.cells))
 (h1 : a.kind = 6) (h2 : a.text = Oy w o l.length ++ Gq l.flatten) (h3 : a.cnt = l.length) (h4 : D.length = Vg w o l.length) : (r5 W1 kTn (m + 3)).a6 v0 (Int.ofNat w) (Int.ofNat o) l.flatten.length (enc l.flatten) vo vd (if w < l.length then ([76] : List UInt8) else []).length (enc (if w < l.length then [76] else [])) (Int.ofNat 0) h := by
 refine Bj2 ?_
 unfold Aym
 have l4 : ∀ (lt : List UInt8) (n : Nat), lt.length ≤ 2 → n = Vg w o l.length → (if o < w then [117, 56] else lt) = Oy w o l.length → (r5 W1 kTn (m + 2)).a4 v0 (Int.ofNat w) (Int.ofNat o) l.flatten.length (enc l.flatten) vo vd lt.length (enc lt) (Int.ofNat n) h := fun lt n hlt hn hlt2 => by
  have hn1 : n ≤ 1 := by rw [hn]; unfold Vg; split <;> omega
  refine Bj4 ?_
  unfold Ayo
  rw [ilt]
  refine Aw (fun e => ?_) (fun e => ?_)
  · have e := of_decide_eq_true e
    rw [if_pos e] at hlt2
    exact A80 (lt := [117, 56]) he hv hl (by decide) ho hd h1 (by rw [h2, hlt2]) h3 (by rw [h4, hn]) hn1
  · have e := of_decide_eq_false e
    rw [if_neg e] at hlt2
    exact A80 he hv hl hlt ho hd h1 (by rw [h2, hlt2]) h3 (by rw [h4, hn]) hn1
 rw [hv.len, ilt]
 refine Li (b := Cw (Az (Int.ofNat o) (Int.ofNat w))) (fun k' hk' => hk') ?_
 rw [Ko, Bw]
 refine Aw (fun e => ?_) (fun e => ?_)
 · simp only [Bool.and_eq_true, decide_eq_true_eq, Bool.not_eq_true', decide_eq_false_iff_not] at e
   rw [hv.len, ilt]
   refine Aw (fun e2 => ?_) (fun e2 => ?_)
   · have e2 := of_decide_eq_true e2
     rw [if_pos e2]
     refine l4 [76] 1 (by decide) ?_ ?_
     · unfold Vg; rw [if_pos ⟨e2, e⟩]
     · unfold Oy; rw [if_pos e2]
   · have e2 := of_decide_eq_false e2
     rw [if_neg e2]
     refine l4 [] 0 (by decide) ?_ ?_
     · unfold Vg; rw [if_neg (fun q => e2 q.1)]
     · unfold Oy; rw [if_neg e2, if_pos e, if_pos (by omega)]
 · have e' : ¬ (o < l.length ∧ o ≠ w) := by
    intro q
    simp [q.1, q.2] at e
   have hz : Vg w o l.length = 0 := by unfold Vg; rw [if_neg (fun q => e' q.2)]
   refine A80 (lt := if w < l.length then [76] else []) (n := 0) he hv hl (by split <;> decide) ho hd h1 ?_ h3 (by rw [h4, hz]) (by decide)
   rw [h2]
   congr 1
   unfold Oy
   by_cases e2 : w < l.length
   · rw [if_pos e2, if_pos e2, if_neg (by omega)]
   · rw [if_neg e2, if_neg e2, if_neg e']
def okC (c : UInt8) : Prop := 32 ≤ c.toNat ∧ c.toNat ≤ 126 ∧ c ≠ 92 ∧ c ≠ 63
theorem A36 {s : List UInt8} (h : ∀ c ∈ s, okC c) : okS s := fun c hc => by
 obtain ⟨a, _, b, d⟩ := h c hc
 refine ⟨fun e => ?_, b, d⟩
 rw [e] at a
 exact absurd a (by decide)
theorem A5y {l : List (List UInt8)} (h : ∀ s ∈ l, s.length ≤ 30) : l.flatten.length ≤ 30 * l.length := by
 induction l with
 | nil => exact Nat.le_refl _
 | cons s l ih =>
  have h1 := h s (by simp)
  have h2 := ih fun y hy => h y (List.mem_cons_of_mem _ hy)
  rw [List.flatten_cons, List.length_append, List.length_cons]; omega
section
variable {hE : H} {v0 : AV} {l : List (List UInt8)} {w o : Nat} (he : Jz hE) (hv : Stz hE v0 l)
include he hv
theorem Bgo {h : H} {i m0 N : Nat} {tx al : List UInt8} (x : Exh hE h) (hi : i < l.length) (htx : tx.length ≤ 1000000) (h30 : l[i].length ≤ 30)
    (hgo : (∀ c ∈ l[i], okC c) → ∀ m, m0 ≤ m → m < N → (r5 W1 kTn m).a3 v0 (Int.ofNat w) (Int.ofNat o) (tx ++ pfS w o i).length (enc (tx ++ pfS w o i)) al.length (enc al) (Int.ofNat i) h) :
    ∀ (n k : Nat), n ≤ N → m0 + (l[i].length - k) + 1 ≤ n → k ≤ l[i].length → (∀ c ∈ l[i].take k, okC c) → (r5 W1 kTn n).a2 v0 (Int.ofNat w) (Int.ofNat o) tx.length (enc tx) al.length (enc al) (Int.ofNat i) (Int.ofNat k) h
  | 0, _, _, hn, _, _ => absurd hn (by omega)
  | n + 1, k, hN, hn, hk, hok => by
    have hv := hv.ext x
    refine Bj6 ?_
    unfold Ayq
    rw [Ar]
    refine hv.get hi ?_
    rw [ilt]
    refine Aw (fun e => ?_) (fun e => ?_)
    · have e : k < l[i].length := of_decide_eq_true e
      have g : ∀ {K : Nat → Prop}, K l[i][k].toNat → Ci (Int.ofNat i) fun m => Ca 1 m v0 fun v => Go.Den.ld1 v h fun v => asS v fun a c => Ci (Int.ofNat k) fun m => Dn a c m K := fun hK => by
        rw [Ar]; refine hv.get hi ?_; rw [Ar]; exact Ck e hK
      refine g ?_
      refine Ma (b := decide (126 < l[i][k].toNat)) (fun k' hk' => g (by rw [ilt]; exact hk')) ?_
      refine Ma (b := decide (l[i][k] = 92)) (fun k' hk' => g (by rw [toNat_eq _ 92 (by decide)]; exact hk')) ?_
      refine Ma (b := decide (l[i][k] = 63)) (fun k' hk' => g (by rw [toNat_eq _ 63 (by decide)]; exact hk')) ?_
      rw [ilt]
      refine Aw (fun _ => ?_) (fun q => ?_)
      · refine Yr (he.keep x.1 x.2) ?_
        rw [Ce]
      · simp only [Bool.or_eq_false_iff, decide_eq_false_iff_not] at q
        rw [Dl, Co (by omega), As]
        refine Bgo x hi htx h30 hgo n (k + 1) (by omega) (by omega) e fun c hc => ?_
        rw [List.take_succ_eq_append_getElem e] at hc
        rcases List.mem_append.1 hc with hc | hc
        · exact hok c hc
        · rw [List.mem_singleton] at hc
          subst hc
          exact ⟨by omega, by omega, q.1.2, q.2⟩
    · have e : k = l[i].length := by have := of_decide_eq_false e; omega
      subst e
      rw [List.take_length] at hok
      have go := hgo hok n (by omega) (by omega)
      unfold pfS at go
      rw [Ko]
      refine Aw (fun q => ?_) (fun q => ?_)
      · rw [if_pos (of_decide_eq_true q)] at go
        exact Oj (s := tx) (t := [76]) (by simp only [List.length_cons, List.length_nil]; omega) go
      · rw [if_neg (of_decide_eq_false q)] at go
        rw [Ko]
        refine Aw (fun q => ?_) (fun q => ?_)
        · rw [if_pos (of_decide_eq_true q)] at go
          exact Oj (s := tx) (t := [117, 56]) (by simp only [List.length_cons, List.length_nil]; omega) go
        · rw [if_neg (of_decide_eq_false q), List.append_nil] at go
          exact go
theorem Bma (hl : l.length ≤ 15) (hl0 : l ≠ []) (hw : w ≤ l.length) : ∀ (n i : Nat) {h : H}, 40 * (l.length - i) + 40 ≤ n → i ≤ l.length → Exh hE h → (∀ s ∈ l.take i, s.length ≤ 30 ∧ ∀ c ∈ s, okC c) →
 (r5 W1 kTn n).a1 v0 (Int.ofNat w) (Int.ofNat o) (txS w o (l.take i) 0).length (enc (txS w o (l.take i) 0)) (l.take i).flatten.length (enc (l.take i).flatten) (Int.ofNat i) h := by
 intro n
 induction n using Nat.strongRecOn with
 | _ n ih =>
  intro i h hn hi x hok
  obtain ⟨n, rfl⟩ : ∃ m, n = m + 1 := ⟨n - 1, by omega⟩
  refine Bj7 ?_
  unfold Ayr
  have hvx := hv.ext x
  have hex := he.keep x.1 x.2
  have htl := Amp (w := w) (o := o) (l.take i) 0 fun s hs => (hok s hs).1
  have hfl := A5y fun s hs => (hok s hs).1
  have htk : (l.take i).length ≤ 15 := by rw [List.length_take]; omega
  rw [hvx.len, ilt]
  refine Aw (fun e => ?_) (fun e => ?_)
  · have e : i < l.length := of_decide_eq_true e
    rw [Ar]
    refine hvx.get e ?_
    rw [ilt]
    refine Aw (fun _ => ?_) (fun q => ?_)
    · refine Yr hex ?_
      rw [Ce]
    · have h30 : l[i].length ≤ 30 := by have := of_decide_eq_false q; omega
      refine Bgo (m0 := 40 * (l.length - (i + 1)) + 41) (N := n) he hv x e (by omega) h30 (fun hc m hm hmn => ?_) n 0 (Nat.le_refl _) (by omega) (Nat.zero_le _) (fun c hc => by rw [List.take_zero] at hc; cases hc)
      obtain ⟨m, rfl⟩ : ∃ q, m = q + 1 := ⟨m - 1, by omega⟩
      refine Bj5 ?_
      unfold Ayp
      rw [Ar]
      refine hvx.get e ?_
      refine c24 (by omega) fun h1 x1 => ?_
      rw [Ch]
      have hq := Pw l[i]
      have hp := Afs (w := w) (o := o) i
      refine Oj (s := txS w o (l.take i) 0 ++ pfS w o i) (t := Gq l[i]) (by rw [List.length_append]; omega) ?_
      refine Oj (s := txS w o (l.take i) 0 ++ pfS w o i ++ Gq l[i]) (t := [32]) (by simp only [List.length_append, List.length_cons, List.length_nil]; omega) ?_
      rw [Ar]
      refine (hvx.ext x1).get e ?_
      refine Oj (s := (l.take i).flatten) (t := l[i]) (by omega) ?_
      rw [Dl, Co (by omega), As]
      have e1 : txS w o (l.take i) 0 ++ pfS w o i ++ Gq l[i] ++ [32] = txS w o (l.take (i + 1)) 0 := by
       rw [List.take_succ_eq_append_getElem e, Ahi, List.length_take, Nat.zero_add, Nat.min_eq_left hi]
       simp
      have e2 : (l.take i).flatten ++ l[i] = (l.take (i + 1)).flatten := by
       rw [List.take_succ_eq_append_getElem e, List.flatten_append]; simp
      rw [e1, e2]
      refine ih m (by omega) (i + 1) (by omega) e (x.trans x1) fun s hs => ?_
      rw [List.take_succ_eq_append_getElem e] at hs
      rcases List.mem_append.1 hs with hs | hs
      · exact hok s hs
      · rw [List.mem_singleton] at hs
        subst hs
        exact ⟨h30, hc⟩
  · have e : i = l.length := by have := of_decide_eq_false e; omega
    subst e
    rw [List.take_length] at hok htl hfl ⊢
    have hs : ∀ s ∈ l, okS s := fun s hs => A36 (hok s hs).2
    have h30 : ∀ s ∈ l, s.length ≤ 30 := fun s hs => (hok s hs).1
    refine A82 (by omega) (Arm l 0 hs) (Aok l 0 hs) fun h1 v T hT hTl x1 rT => ?_
    have x01 := x.trans x1
    have hTn : (T.map Apk).length = l.length := by
     have := congrArg List.length hT
     rwa [List.length_map, Adj] at this
    refine c16 rT (by omega) (fun y hy => ?_) (he.keep x01.1 x01.2) fun h2 vo vd x2 bo bd => ?_
    · have : tk y ∈ toS w o l 0 := by rw [← hT]; exact List.mem_map_of_mem hy
      have := Arn l 0 h30 _ this
      have : y.text.length ≤ 64 := this
      omega
    have x02 := x01.trans x2
    have hv2 := hv.ext x02
    have hk0 : ∀ z ∈ T.map Apk, 0 ≤ z.kind := fun z hz => by
     obtain ⟨y, _, rfl⟩ := List.mem_map.1 hz
     exact Int.natCast_nonneg _
    obtain ⟨a, b, q1, q2, q3, q4, q5⟩ := A8s hk0 hT hs hl0
    rw [q1] at bo
    rw [Eo, Ew, hv2.len, ilt]
    have fin := Bl9 (m := n - 3) (he.keep x02.1 x02.2) hv2 (by omega) hw bo bd q2 q3 q4 q5
    have hn3 : n - 3 + 3 = n := by omega
    rw [hn3] at fin
    refine Aw (fun e => ?_) (fun e => ?_)
    · rw [if_pos (of_decide_eq_true e)] at fin; exact fin
    · rw [if_neg (of_decide_eq_false e)] at fin; exact fin
theorem c5 (a b : Int) : W1 (.func 5) [v0, .int .i64 a, .int .i64 b] hE kTn := by
 refine w5 (n := 1000) Bn (g5 ?_)
 unfold Ays
 rw [hv.len]
 refine Ma (b := decide (15 < l.length)) (fun k' hk' => ?_) ?_
 · rw [hv.len, ilt]; exact hk'
 rw [Ko]
 refine Aw (fun _ => ?_) (fun e => ?_)
 · refine Yr he ?_
   rw [Ce]
 simp only [Bool.or_eq_false_iff, decide_eq_false_iff_not] at e
 have hl0 : l ≠ [] := fun q => e.1 (by rw [q]; rfl)
 obtain ⟨w, w1, w2⟩ := c23 a (m := l.length + 1) (by omega) (by omega)
 obtain ⟨o, o1, o2⟩ := c23 b (m := l.length + 1) (by omega) (by omega)
 rw [hv.len, Dl, Co (by omega), As]
 refine Dq w2 ?_
 rw [Au, hv.len, Dl, Co (by omega), As]
 refine Dq o2 ?_
 rw [Au]
 exact Bma (w := w) (o := o) he hv (by omega) hl0 (by omega) 999 0 (by omega) (Nat.zero_le _) .refl (fun s hs => by rw [List.take_zero] at hs; cases hs)
end
end Go.Den
