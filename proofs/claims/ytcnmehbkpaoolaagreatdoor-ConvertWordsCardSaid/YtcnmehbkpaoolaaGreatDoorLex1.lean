/-
 A part of the proof.
-/
import Derived.Test.YtcnmehbkpaoolaaGreatDoorByt1
namespace Go.Den
open Go.RowKit
set_option maxRecDepth 100000
theorem ilt (a b : Nat) : Cu (Int.ofNat a) (Int.ofNat b) = decide (a < b) := by
 rw [Fh]; exact decide_eq_decide.2 Int.ofNat_lt
theorem ile (a b : Nat) : Fe (Int.ofNat a) (Int.ofNat b) = decide (a ≤ b) := by
 rw [Ja]; exact decide_eq_decide.2 Int.ofNat_le
theorem Sr (a b : Nat) : Ba (Int.ofNat a) (Int.ofNat b) = decide (a = b) := by
 rw [Fi]; exact decide_eq_decide.2 ⟨fun e => Int.ofNat.inj e, fun e => by rw [e]⟩
theorem Ov (a b : UInt8) : Ba (Int.ofNat a.toNat) (Int.ofNat b.toNat) = decide (a = b) := by
 rw [Sr]; exact decide_eq_decide.2 ⟨fun e => UInt8.toNat_inj.1 e, fun e => by rw [e]⟩
theorem Acn {a b : Nat} (h : b ≤ a) : Jh (Int.ofNat a) (Int.ofNat b) = Int.ofNat (a - b) := by
 rw [Ul]; exact (Int.ofNat_sub h).symm
theorem Dk (a b : Nat) : Bp (Int.ofNat a) (Int.ofNat b) = Int.ofNat (a + b) := by rw [Gt]; rfl
def Pa (sz o : Nat) (t : Tm) (L : List (List AV)) : Prop := ∀ i (hi : i < L.length), L[i].length = sz ∧ ∀ j (hj : j < L[i].length), Az t (o + i * sz + j) = L[i][j]
def AtP (h : H) (q : P) (o : Nat) (cs : List AV) : Prop := ∃ t m z e w, h.at q = .row t m z e w ∧ o + cs.length ≤ m ∧ ∀ j (hj : j < cs.length), Az t (o + j) = cs[j]
def Rd (sz : Nat) (h : H) (v : AV) (L : List (List AV)) : Prop := ∃ q o t m z e w b, v = .slice q o L.length sz b ∧ q.nat < h.next.nat ∧ h.at q = .row t m z e w ∧ o + L.length * sz ≤ m ∧ Pa sz o t L
def Cv (e : TypeId) (sz lo : Nat) (h : H) (v : AV) (L : List (List AV)) : Prop := (v = .Ad ∧ L = []) ∨ ∃ q t m z w, v = .slice q 0 L.length sz false ∧ lo ≤ q.nat ∧ q.nat < h.next.nat ∧ h.at q = .row t m z e w ∧ L.length * sz ≤ m ∧ z ≤ L.length * sz ∧ Pa sz 0 t L
theorem Cv.rd {e : TypeId} {sz lo : Nat} {h : H} {v : AV} {L : List (List AV)} (hb : Cv e sz lo h v L) (hL : L ≠ []) : Rd sz h v L := by
 rcases hb with ⟨_, rfl⟩ | ⟨q, t, m, z, w, rfl, _, h2, h3, h4, _, h6⟩
 · exact absurd rfl hL
 · exact ⟨q, 0, t, m, z, e, w, false, rfl, h2, h3, by omega, h6⟩
theorem Cv.one {e : TypeId} {sz lo : Nat} {h : H} {v : AV} {L : List (List AV)} (hb : Cv e sz lo h v L) : v.one = true := by
 rcases hb with ⟨rfl, _⟩ | ⟨_, _, _, _, _, rfl, _⟩ <;> rfl
theorem Cv.len {e : TypeId} {sz lo : Nat} {h : H} {v : AV} {L : List (List AV)} (hb : Cv e sz lo h v L) {K : Nat → Prop} : Ep v K = K L.length := by
 rcases hb with ⟨rfl, rfl⟩ | ⟨_, _, _, _, _, rfl, _⟩ <;> rfl
theorem Rd.len {sz : Nat} {h : H} {v : AV} {L : List (List AV)} (hr : Rd sz h v L) {K : Nat → Prop} : Ep v K = K L.length := by
 obtain ⟨_, _, _, _, _, _, _, _, rfl, _⟩ := hr; rfl
theorem Rd.frame {sz : Nat} {h h' : H} {v : AV} {L : List (List AV)} (hr : Rd sz h v L) (hn : h.next.nat ≤ h'.next.nat) (hf : ∀ c, c.nat < h.next.nat → (∀ o n z b, v = .slice c o n z b → h'.at c = h.at c)) : Rd sz h' v L := by
 obtain ⟨q, o, t, m, z, e, w, b, rfl, h1, h2, h3⟩ := hr
 exact ⟨q, o, t, m, z, e, w, b, rfl, by omega, by rw [hf q h1 _ _ _ _ rfl]; exact h2, h3⟩
theorem Vb {sz i : Nat} {q : P} {o n : Nat} {b : Bool} {K : AV → Prop} (hi : i < n) (hk : K (.ptr q (o + i * sz))) : Cc sz i (.slice q o n sz b) K := by
 show Bool.rec Aj (fN (Nat.add o (Nat.mul i sz)) (fun q' => K (.ptr q q'))) (Ai (Nat.ble (Nat.add i 1) n) (Nat.beq sz sz))
 rw [show Nat.ble (Nat.add i 1) n = true from Nat.ble_eq_true_of_le hi, Nat.beq_refl]
 exact hk
theorem Rd.elem {sz i : Nat} {h : H} {v : AV} {L : List (List AV)} {K : AV → Prop} (hr : Rd sz h v L) (hi : i < L.length) (hk : ∀ q o, q.nat < h.next.nat → (∃ o n z b, v = .slice q o n z b) → AtP h q o L[i] → K (.ptr q o)) : Cc sz i v K := by
 obtain ⟨q, o, t, m, z, e, w, b, rfl, h1, h2, h3, h4⟩ := hr
 refine Vb hi (hk _ _ h1 ⟨_, _, _, _, rfl⟩ ⟨t, m, z, e, w, h2, ?_, ?_⟩)
 · rw [(h4 i hi).1]
   have : (i + 1) * sz ≤ L.length * sz := Nat.mul_le_mul_right _ hi
   rw [Nat.succ_mul] at this
   omega
 · exact (h4 i hi).2
theorem Ay {q : P} {o j : Nat} {K : AV → Prop} : Ap j (.ptr q o) K = K (.ptr q (o + j)) := rfl
theorem AtP.ld1 {h : H} {q : P} {o j : Nat} {cs : List AV} {K : AV → Prop} (ha : AtP h q o cs) (hj : j < cs.length) (hk : K cs[j]) : ld1 (.ptr q (o + j)) h K := by
 obtain ⟨t, m, z, e, w, h1, h2, h3⟩ := ha
 refine Ct h1 (by omega) ?_
 rw [h3 j hj]; exact hk
theorem AtP.ldn {h : H} {q : P} {o c : Nat} {cs : List AV} {K : AV → Prop} (ha : AtP h q o cs) (hj : cs.length = c) (hk : K (.agg cs)) : ldn c (.ptr q o) h K := by
 obtain ⟨t, m, z, e, w, h1, h2, h3⟩ := ha
 refine Ack h1 (by omega) ?_
 have : Cb t c o = cs := by
  rw [Fw]
  apply List.ext_getElem
  · simp [hj]
  · intro i h1 h2
    simp only [List.getElem_map, List.getElem_range]
    exact h3 i h2
 rw [this]; exact hk
theorem AtP.frame {h h' : H} {q : P} {o : Nat} {cs : List AV} (ha : AtP h q o cs) (hf : h'.at q = h.at q) : AtP h' q o cs := by
 obtain ⟨t, m, z, e, w, h1, h2⟩ := ha
 exact ⟨t, m, z, e, w, by rw [hf]; exact h1, h2⟩
theorem Rd.fld {sz i j : Nat} {h : H} {v : AV} {L : List (List AV)} {K : AV → Prop} (hr : Rd sz h v L) (hi : i < L.length) (hj : j < L[i].length) (hk : K L[i][j]) : Cc sz i v fun a => Ap j a fun a => Go.Den.ld1 a h K :=
 hr.elem hi fun q o _ _ ha => by rw [Ay]; exact ha.ld1 hj hk
theorem Rd.all {sz i : Nat} {h : H} {v : AV} {L : List (List AV)} {K : AV → Prop} (hr : Rd sz h v L) (hi : i < L.length) (hz : L[i].length = sz) (hk : K (.agg L[i])) : Cc sz i v fun a => Go.Den.ldn sz a h K :=
 hr.elem hi fun _q _o _ _ ha => ha.ldn hz hk
theorem Aan (ds : List AV) (t : Tm) : Cb (Ah ds 0 t) ds.length 0 = ds := by
 rw [Fw]
 apply List.ext_getElem
 · simp
 · intro i h1 h2
   simp only [List.getElem_map, List.getElem_range]
   rw [Ao, if_pos (by omega), List.getD_eq_getElem?_getD, List.getElem?_eq_getElem (by omega)]
   simp
theorem Afk {h : H} {sz : Nat} {ds : List AV} {t : Tm} {e : TypeId} (hd : ds.length = sz) : Bs (h.new (.row (Ah ds 0 t) sz 0 e true)) sz (.slice h.next 0 1 sz true) = some (1, ds) := by
 show (Bool.rec none (Option.rec none (fun cs => some (1, cs)) ((h.new (.row (Ah ds 0 t) sz 0 e true)).read h.next 0 (Nat.mul 1 sz))) (Nat.beq sz sz) : Option (Nat × List AV)) = _
 rw [Nat.beq_refl]
 have hr : (h.new (.row (Ah ds 0 t) sz 0 e true)).read h.next 0 (Nat.mul 1 sz) = some ds := by
  show Hp.Iq _ _ _ _ _ _ = _
  unfold Hp.Iq
  rw [Ax]
  show Pk 0 (Nat.mul 1 sz) none some (Ah ds 0 t) sz = _
  unfold Pk
  have : Nat.mul 1 sz = ds.length := by show 1 * sz = _; omega
  rw [this, Aan, show Nat.ble (Nat.add 0 ds.length) sz = true from Nat.ble_eq_true_of_le (by show 0 + ds.length ≤ sz; omega)]
 rw [hr]
theorem Pa.nil {sz o : Nat} {t : Tm} : Pa sz o t [] := fun _i hi => absurd hi (Nat.not_lt_zero _)
theorem Pa.app {sz : Nat} {t : Tm} {L : List (List AV)} {ds : List AV} (hr : Pa sz 0 t L) (hd : ds.length = sz) : Pa sz 0 (Ah ds (L.length * sz) t) (L ++ [ds]) := by
 intro i hi
 rw [List.length_append, List.length_singleton] at hi
 by_cases e : i < L.length
 · rw [List.getElem_append_left e]
   refine ⟨(hr i e).1, fun j hj => ?_⟩
   have : (i + 1) * sz ≤ L.length * sz := Nat.mul_le_mul_right _ e
   rw [Nat.succ_mul] at this
   have hj' : j < sz := by rw [← (hr i e).1]; exact hj
   rw [Ao, if_neg (by omega)]
   exact (hr i e).2 j hj
 · have ei : i = L.length := by omega
   subst ei
   rw [List.getElem_append_right (Nat.le_refl _)]
   simp only [Nat.sub_self, List.getElem_cons_zero]
   refine ⟨hd, fun j hj => ?_⟩
   rw [Ao, if_pos (by omega), List.getD_eq_getElem?_getD, show 0 + L.length * sz + j - L.length * sz = j by omega, List.getElem?_eq_getElem hj]
   rfl
theorem Bgn {e : TypeId} {sz lo : Nat} {ei : TI} {h : H} {v x : AV} {L : List (List AV)} {ds : List AV} (hb : Cv e sz lo h v L) (hx : Bs h sz x = some (1, ds)) (hd : ds.length = sz) (hsz : ei.size = sz) (hf : Cf ei (L.length + 1) = true) (hlo : lo ≤ h.next.nat) :
 ∃ v' h', Dc (some false) v x h e ei = some (v', h') ∧ Cv e sz lo h' v' (L ++ [ds]) ∧ h.next.nat ≤ h'.next.nat ∧ ∀ c, c.nat < h.next.nat → (∀ o n z b, v ≠ .slice c o n z b) → h'.at c = h.at c := by
 have hl : Er v = L.length := by rcases hb with ⟨rfl, rfl⟩ | ⟨_, _, _, _, _, rfl, _⟩ <;> rfl
 have hok : Ff v = true := by rcases hb with ⟨rfl, rfl⟩ | ⟨_, _, _, _, _, rfl, _⟩ <;> rfl
 have e0 : Dc (some false) v x h e ei = Jq e sz v 1 ds h := by
  show (Option.rec none (fun p => Bool.rec none (Bool.rec (Jq e ei.size v p.1 p.2 h) (some (v, h)) (Nat.beq p.1 0)) (Ai (Ff v) (Cf ei (Nat.add (Er v) p.1)))) (Bs h ei.size x) : Option (AV × H)) = _
  rw [hsz, hx]
  show (Bool.rec none (Jq e sz v 1 ds h) (Ai (Ff v) (Cf ei (Nat.add (Er v) 1))) : Option (AV × H)) = _
  rw [hl, hok, show Cf ei (Nat.add L.length 1) = true from hf]; rfl
 rw [e0]
 rcases hb with ⟨rfl, rfl⟩ | ⟨q, t, m, z, w, rfl, h1, h2, h3, h4, h5, h6⟩
 · refine ⟨.slice h.next 0 1 sz false, h.new (.row (Ah ds 0 .e) (Nat.mul 1 sz) 0 e false), rfl, .inr ⟨h.next, Ah ds 0 .e, Nat.mul 1 sz, 0, false, rfl, hlo, by rw [Bg]; omega, Ax _ _, Nat.le_refl _, Nat.zero_le _, ?_⟩, by rw [Bg]; omega, fun c hc _ => Df hc⟩
   have := Pa.app (t := .e) (Pa.nil (sz := sz) (o := 0)) hd
   rwa [show ([] : List (List AV)).length * sz = 0 by simp] at this
 · have e1 : Jq e sz (.slice q 0 L.length sz false) 1 ds h = (Bool.rec none (Wo e q 0 L.length 1 sz ds h (Dv (h.at q))) (Nat.beq sz sz) : Option (AV × H)) := rfl
   rw [e1, Nat.beq_refl, h3]
   show ∃ v' h', (Bool.rec none (some (.slice h.next 0 (Nat.add L.length 1) sz false, (h.put q .dead).new (.row (Ah ds (Nat.add 0 (Nat.mul L.length sz)) t) (Nat.add 0 (Nat.mul (Nat.add L.length 1) sz)) z e false)))
    (Ai (Ai (Nat.beq e e) (Nat.beq 0 0)) (Ai (Nat.ble (Nat.add 0 (Nat.mul L.length sz)) m) (Nat.ble z (Nat.add 0 (Nat.mul L.length sz))))) : Option (AV × H)) = some (v', h') ∧ _
   have a1 : Nat.add 0 (Nat.mul L.length sz) = L.length * sz := Nat.zero_add _
   rw [a1, Nat.beq_refl, Nat.ble_eq_true_of_le h4, Nat.ble_eq_true_of_le h5]
   refine ⟨_, _, rfl, .inr ⟨h.next, _, _, z, false, ?_, hlo, ?_, Ax (h.put q .dead) _, ?_, ?_, h6.app hd⟩, ?_, fun c hc hne => ?_⟩
   · rw [List.length_append]; rfl
   · show h.next.nat < (P.succ h.next).nat
     rw [P.Dq]; omega
   · rw [List.length_append]
     show (L.length + 1) * sz ≤ 0 + (L.length + 1) * sz
     omega
   · rw [List.length_append, Nat.add_mul]; omega
   · show h.next.nat ≤ (P.succ h.next).nat
     rw [P.Dq]; omega
   · have hcq : c ≠ q := fun e' => hne _ _ _ _ (by rw [e'])
     rw [Df (show c.nat < (h.put q .dead).next.nat from hc), Br hcq]
theorem Cv.frame {e : TypeId} {sz lo : Nat} {h h' : H} {v : AV} {L : List (List AV)} (hb : Cv e sz lo h v L) (hn : h.next.nat ≤ h'.next.nat) (hf : ∀ c, c.nat < h.next.nat → lo ≤ c.nat → (∀ t m z w, h.at c = .row t m z e w → h'.at c = h.at c)) : Cv e sz lo h' v L := by
 rcases hb with ⟨rfl, rfl⟩ | ⟨q, t, m, z, w, rfl, h1, h2, h3, h4⟩
 · exact .inl ⟨rfl, rfl⟩
 · exact .inr ⟨q, t, m, z, w, rfl, h1, by omega, by rw [hf q h2 h1 _ _ _ _ h3]; exact h3, h4⟩
def Kp (e : TypeId) (lo : Nat) (h h' : H) : Prop := h.next.nat ≤ h'.next.nat ∧ ∀ c, c.nat < h.next.nat → (c.nat < lo ∨ ∃ t m z e' w, h.at c = .row t m z e' w ∧ e' ≠ e) → h'.at c = h.at c
theorem Kp.new {e : TypeId} {lo : Nat} {h : H} {o : Ob FT} : Kp e lo h (h.new o) := ⟨by rw [Bg]; omega, fun _ hc _ => Df hc⟩
theorem Kp.trans {e : TypeId} {lo : Nat} {h h1 h2 : H} (a : Kp e lo h h1) (b : Kp e lo h1 h2) : Kp e lo h h2 := by
 refine ⟨Nat.le_trans a.1 b.1, fun c hc hh => ?_⟩
 have e1 := a.2 c hc hh
 rw [b.2 c (Nat.lt_of_lt_of_le hc a.1) (by rw [e1]; exact hh), e1]
def Exh (h h' : H) : Prop := h.next.nat ≤ h'.next.nat ∧ ∀ c, c.nat < h.next.nat → h'.at c = h.at c
theorem Exh.refl {h : H} : Exh h h := ⟨Nat.le_refl _, fun _ _ => rfl⟩
theorem Exh.trans {h h1 h2 : H} (a : Exh h h1) (b : Exh h1 h2) : Exh h h2 := ⟨Nat.le_trans a.1 b.1, fun c hc => by rw [b.2 c (Nat.lt_of_lt_of_le hc a.1), a.2 c hc]⟩
theorem Exh.new {h : H} {o : Ob FT} : Exh h (h.new o) := ⟨by rw [Bg]; omega, fun _ hc => Df hc⟩
theorem Exh.kp {e : TypeId} {lo : Nat} {hE h h' : H} (a : Exh hE h) (hl : hE.next.nat ≤ lo) (b : Kp e lo h h') : Exh hE h' :=
 ⟨Nat.le_trans a.1 b.1, fun c hc => by rw [b.2 c (Nat.lt_of_lt_of_le hc a.1) (.inl (by omega)), a.2 c hc]⟩
theorem Rd.ext {sz : Nat} {h h' : H} {v : AV} {L : List (List AV)} (hr : Rd sz h v L) (hx : Exh h h') : Rd sz h' v L := hr.frame hx.1 fun c hc _ _ _ _ _ => hx.2 c hc
theorem Cv.ext {e : TypeId} {sz lo : Nat} {h h' : H} {v : AV} {L : List (List AV)} (hb : Cv e sz lo h v L) (hx : Exh h h') : Cv e sz lo h' v L := hb.frame hx.1 fun c hc _ _ _ _ _ _ => hx.2 c hc
theorem Cv.kp {e e' : TypeId} {sz lo lo' : Nat} {h h' : H} {v : AV} {L : List (List AV)} (hb : Cv e sz lo h v L) (hx : Kp e' lo' h h') (he : e ≠ e') : Cv e sz lo h' v L := hb.frame hx.1 fun c hc _ t m z w ha => hx.2 c hc (.inr ⟨t, m, z, e, w, ha, he⟩)
theorem Bgp {e : TypeId} {sz lo : Nat} {ei : TI} {h : H} {v x : AV} {L : List (List AV)} {ds : List AV} (hb : Cv e sz lo h v L) (hx : Bs h sz x = some (1, ds)) (hd : ds.length = sz) (hsz : ei.size = sz) (hf : Cf ei (L.length + 1) = true) (hlo : lo ≤ h.next.nat) :
 ∃ v' h', Dc (some false) v x h e ei = some (v', h') ∧ Cv e sz lo h' v' (L ++ [ds]) ∧ Kp e lo h h' := by
 obtain ⟨v', h', a, b, c, d⟩ := Bgn hb hx hd hsz hf hlo
 refine ⟨v', h', a, b, c, fun p hp hh => d p hp fun o n z b' ev => ?_⟩
 rcases hb with ⟨rfl, _⟩ | ⟨q, t, m, z', w, rfl, h1, h2, h3, _⟩
 · cases ev
 · cases ev
   rcases hh with hh | ⟨t', m', z'', e', w', hr, hne⟩
   · omega
   · rw [h3] at hr; cases hr; exact hne rfl
theorem Ags {e : TypeId} {sz lo : Nat} {ei : TI} {h : H} {v : AV} {L : List (List AV)} {ds : List AV} {t : Tm} (hb : Cv e sz lo h v L) (hd : ds.length = sz) (hsz : ei.size = sz) (hf : Cf ei (L.length + 1) = true) (hlo : lo ≤ h.next.nat) {k : KV} (hk : ∀ v' h', Cv e sz lo h' v' (L ++ [ds]) → Kp e lo h h' → k v' h') :
 oK (Dc (some false) v (.slice h.next 0 1 sz true) (h.new (.row (Ah ds 0 t) sz 0 e true)) e ei) k := by
 obtain ⟨v', h', a, b, c⟩ := Bgp (hb.ext Exh.new) (Afk hd) hd hsz hf (Nat.le_trans hlo (by rw [Bg]; omega))
 rw [a, Ae]
 exact hk _ _ b (Kp.new.trans c)
end Go.Den
