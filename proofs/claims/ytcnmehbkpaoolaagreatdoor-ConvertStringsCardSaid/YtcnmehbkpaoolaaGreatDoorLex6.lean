/-
 Part of the proof.
-/
import Derived.Test.YtcnmehbkpaoolaaGreatDoorByt1
set_option maxRecDepth 100000
namespace Go.Den
open Go.RowKit
theorem ilt (a b : Nat) : Cs (Int.ofNat a) (Int.ofNat b) = decide (a < b) := by
 rw [Fm]; exact decide_eq_decide.2 Int.ofNat_lt
theorem ile (a b : Nat) : Fk (Int.ofNat a) (Int.ofNat b) = decide (a ≤ b) := by
 rw [Jj]; exact decide_eq_decide.2 Int.ofNat_le
theorem Ko (a b : Nat) : Az (Int.ofNat a) (Int.ofNat b) = decide (a = b) := by
 rw [Fp]; exact decide_eq_decide.2 ⟨fun e => Int.ofNat.inj e, fun e => by rw [e]⟩
theorem Pd (a b : UInt8) : Az (Int.ofNat a.toNat) (Int.ofNat b.toNat) = decide (a = b) := by
 rw [Ko]; exact decide_eq_decide.2 ⟨fun e => UInt8.toNat_inj.1 e, fun e => by rw [e]⟩
theorem Acw {a b : Nat} (h : b ≤ a) : Jp (Int.ofNat a) (Int.ofNat b) = Int.ofNat (a - b) := by
 rw [Uq]; exact (Int.ofNat_sub h).symm
theorem Dl (a b : Nat) : Br (Int.ofNat a) (Int.ofNat b) = Int.ofNat (a + b) := by rw [Hf]; rfl
def Pj (sz o : Nat) (t : Tm) (L : List (List AV)) : Prop := ∀ i (hi : i < L.length), L[i].length = sz ∧ ∀ j (hj : j < L[i].length), Bd t (o + i * sz + j) = L[i][j]
def AtP (h : H) (q : P) (o : Nat) (cs : List AV) : Prop := ∃ t m z e w, h.at q = .row t m z e w ∧ o + cs.length ≤ m ∧ ∀ j (hj : j < cs.length), Bd t (o + j) = cs[j]
def Rd (sz : Nat) (h : H) (v : AV) (L : List (List AV)) : Prop := ∃ q o t m z e w b, v = .slice q o L.length sz b ∧ q.nat < h.next.nat ∧ h.at q = .row t m z e w ∧ o + L.length * sz ≤ m ∧ Pj sz o t L
def Ct (e : TypeId) (sz lo : Nat) (h : H) (v : AV) (L : List (List AV)) : Prop := (v = .Ad ∧ L = []) ∨ ∃ q t m z w, v = .slice q 0 L.length sz false ∧ lo ≤ q.nat ∧ q.nat < h.next.nat ∧ h.at q = .row t m z e w ∧ L.length * sz ≤ m ∧ z ≤ L.length * sz ∧ Pj sz 0 t L
theorem Ct.rd {e : TypeId} {sz lo : Nat} {h : H} {v : AV} {L : List (List AV)} (hb : Ct e sz lo h v L) (hL : L ≠ []) : Rd sz h v L := by
 rcases hb with ⟨_, rfl⟩ | ⟨q, t, m, z, w, rfl, _, h2, h3, h4, _, h6⟩
 · exact absurd rfl hL
 · exact ⟨q, 0, t, m, z, e, w, false, rfl, h2, h3, by omega, h6⟩
theorem Ct.one {e : TypeId} {sz lo : Nat} {h : H} {v : AV} {L : List (List AV)} (hb : Ct e sz lo h v L) : v.one = true := by
 rcases hb with ⟨rfl, _⟩ | ⟨_, _, _, _, _, rfl, _⟩ <;> rfl
theorem Ct.len {e : TypeId} {sz lo : Nat} {h : H} {v : AV} {L : List (List AV)} (hb : Ct e sz lo h v L) {K : Nat → Prop} : Ef v K = K L.length := by
 rcases hb with ⟨rfl, rfl⟩ | ⟨_, _, _, _, _, rfl, _⟩ <;> rfl
theorem Rd.len {sz : Nat} {h : H} {v : AV} {L : List (List AV)} (hr : Rd sz h v L) {K : Nat → Prop} : Ef v K = K L.length := by
 obtain ⟨_, _, _, _, _, _, _, _, rfl, _⟩ := hr; rfl
theorem Rd.frame {sz : Nat} {h h' : H} {v : AV} {L : List (List AV)} (hr : Rd sz h v L) (hn : h.next.nat ≤ h'.next.nat) (hf : ∀ c, c.nat < h.next.nat → (∀ o n z b, v = .slice c o n z b → h'.at c = h.at c)) : Rd sz h' v L := by
 obtain ⟨q, o, t, m, z, e, w, b, rfl, h1, h2, h3⟩ := hr
 exact ⟨q, o, t, m, z, e, w, b, rfl, by omega, by rw [hf q h1 _ _ _ _ rfl]; exact h2, h3⟩
theorem Rm {sz i : Nat} {q : P} {o n : Nat} {b : Bool} {K : AV → Prop} (hi : i < n) (hk : K (.ptr q (o + i * sz))) : Ca sz i (.slice q o n sz b) K := by
 show Bool.rec Ak (fN (Nat.add o (Nat.mul i sz)) (fun q' => K (.ptr q q'))) (Ai (Nat.ble (Nat.add i 1) n) (Nat.beq sz sz))
 rw [show Nat.ble (Nat.add i 1) n = true from Nat.ble_eq_true_of_le hi, Nat.beq_refl]
 exact hk
theorem Rd.elem {sz i : Nat} {h : H} {v : AV} {L : List (List AV)} {K : AV → Prop} (hr : Rd sz h v L) (hi : i < L.length) (hk : ∀ q o, q.nat < h.next.nat → (∃ o n z b, v = .slice q o n z b) → AtP h q o L[i] → K (.ptr q o)) : Ca sz i v K := by
 obtain ⟨q, o, t, m, z, e, w, b, rfl, h1, h2, h3, h4⟩ := hr
 refine Rm hi (hk _ _ h1 ⟨_, _, _, _, rfl⟩ ⟨t, m, z, e, w, h2, ?_, ?_⟩)
 · rw [(h4 i hi).1]
   have : (i + 1) * sz ≤ L.length * sz := Nat.mul_le_mul_right _ hi
   rw [Nat.succ_mul] at this
   omega
 · exact (h4 i hi).2
theorem Ba {q : P} {o j : Nat} {K : AV → Prop} : Aq j (.ptr q o) K = K (.ptr q (o + j)) := rfl
theorem AtP.ld1 {h : H} {q : P} {o j : Nat} {cs : List AV} {K : AV → Prop} (ha : AtP h q o cs) (hj : j < cs.length) (hk : K cs[j]) : ld1 (.ptr q (o + j)) h K := by
 obtain ⟨t, m, z, e, w, h1, h2, h3⟩ := ha
 refine Da h1 (by omega) ?_
 rw [h3 j hj]; exact hk
theorem AtP.ldn {h : H} {q : P} {o c : Nat} {cs : List AV} {K : AV → Prop} (ha : AtP h q o cs) (hj : cs.length = c) (hk : K (.agg cs)) : ldn c (.ptr q o) h K := by
 obtain ⟨t, m, z, e, w, h1, h2, h3⟩ := ha
 refine Acs h1 (by omega) ?_
 have : Cp t c o = cs := by
  rw [Gx]
  apply List.ext_getElem
  · simp [hj]
  · intro i h1 h2
    simp only [List.getElem_map, List.getElem_range]
    exact h3 i h2
 rw [this]; exact hk
theorem AtP.frame {h h' : H} {q : P} {o : Nat} {cs : List AV} (ha : AtP h q o cs) (hf : h'.at q = h.at q) : AtP h' q o cs := by
 obtain ⟨t, m, z, e, w, h1, h2⟩ := ha
 exact ⟨t, m, z, e, w, by rw [hf]; exact h1, h2⟩
theorem Rd.fld {sz i j : Nat} {h : H} {v : AV} {L : List (List AV)} {K : AV → Prop} (hr : Rd sz h v L) (hi : i < L.length) (hj : j < L[i].length) (hk : K L[i][j]) : Ca sz i v fun a => Aq j a fun a => Go.Den.ld1 a h K :=
 hr.elem hi fun q o _ _ ha => by rw [Ba]; exact ha.ld1 hj hk
theorem Rd.all {sz i : Nat} {h : H} {v : AV} {L : List (List AV)} {K : AV → Prop} (hr : Rd sz h v L) (hi : i < L.length) (hz : L[i].length = sz) (hk : K (.agg L[i])) : Ca sz i v fun a => Go.Den.ldn sz a h K :=
 hr.elem hi fun _q _o _ _ ha => ha.ldn hz hk
theorem Aau (ds : List AV) (t : Tm) : Cp (Ah ds 0 t) ds.length 0 = ds := by
 rw [Gx]
 apply List.ext_getElem
 · simp
 · intro i h1 h2
   simp only [List.getElem_map, List.getElem_range]
   rw [Ap, if_pos (by omega), List.getD_eq_getElem?_getD, List.getElem?_eq_getElem (by omega)]
   simp
theorem Yc {h : H} {sz : Nat} {ds : List AV} {t : Tm} {e : TypeId} (hd : ds.length = sz) : Bs (h.new (.row (Ah ds 0 t) sz 0 e true)) sz (.slice h.next 0 1 sz true) = some (1, ds) := by
 show (Bool.rec none (Option.rec none (fun cs => some (1, cs)) ((h.new (.row (Ah ds 0 t) sz 0 e true)).read h.next 0 (Nat.mul 1 sz))) (Nat.beq sz sz) : Option (Nat × List AV)) = _
 rw [Nat.beq_refl]
 have hr : (h.new (.row (Ah ds 0 t) sz 0 e true)).read h.next 0 (Nat.mul 1 sz) = some ds := by
  show Hp.Ix _ _ _ _ _ _ = _
  unfold Hp.Ix
  rw [Ax]
  show Pv 0 (Nat.mul 1 sz) none some (Ah ds 0 t) sz = _
  unfold Pv
  have : Nat.mul 1 sz = ds.length := by show 1 * sz = _; omega
  rw [this, Aau, show Nat.ble (Nat.add 0 ds.length) sz = true from Nat.ble_eq_true_of_le (by show 0 + ds.length ≤ sz; omega)]
 rw [hr]
theorem Pj.nil {sz o : Nat} {t : Tm} : Pj sz o t [] := fun _i hi => absurd hi (Nat.not_lt_zero _)
theorem Pj.app {sz : Nat} {t : Tm} {L : List (List AV)} {ds : List AV} (hr : Pj sz 0 t L) (hd : ds.length = sz) : Pj sz 0 (Ah ds (L.length * sz) t) (L ++ [ds]) := by
 intro i hi
 rw [List.length_append, List.length_singleton] at hi
 by_cases e : i < L.length
 · rw [List.getElem_append_left e]
   refine ⟨(hr i e).1, fun j hj => ?_⟩
   have : (i + 1) * sz ≤ L.length * sz := Nat.mul_le_mul_right _ e
   rw [Nat.succ_mul] at this
   have hj' : j < sz := by rw [← (hr i e).1]; exact hj
   rw [Ap, if_neg (by omega)]
   exact (hr i e).2 j hj
 · have ei : i = L.length := by omega
   subst ei
   rw [List.getElem_append_right (Nat.le_refl _)]
   simp only [Nat.sub_self, List.getElem_cons_zero]
   refine ⟨hd, fun j hj => ?_⟩
   rw [Ap, if_pos (by omega), List.getD_eq_getElem?_getD, show 0 + L.length * sz + j - L.length * sz = j by omega, List.getElem?_eq_getElem hj]
   rfl
theorem Bhc {e : TypeId} {sz lo : Nat} {ei : TI} {h : H} {v x : AV} {L : List (List AV)} {ds : List AV} (hb : Ct e sz lo h v L) (hx : Bs h sz x = some (1, ds)) (hd : ds.length = sz) (hsz : ei.size = sz) (hf : Cl ei (L.length + 1) = true) (hlo : lo ≤ h.next.nat) :
 ∃ v' h', Db (some false) v x h e ei = some (v', h') ∧ Ct e sz lo h' v' (L ++ [ds]) ∧ h.next.nat ≤ h'.next.nat ∧ ∀ c, c.nat < h.next.nat → (∀ o n z b, v ≠ .slice c o n z b) → h'.at c = h.at c := by
 have hl : Ey v = L.length := by rcases hb with ⟨rfl, rfl⟩ | ⟨_, _, _, _, _, rfl, _⟩ <;> rfl
 have hok : Fl v = true := by rcases hb with ⟨rfl, rfl⟩ | ⟨_, _, _, _, _, rfl, _⟩ <;> rfl
 have e0 : Db (some false) v x h e ei = Jx e sz v 1 ds h := by
  show (Option.rec none (fun p => Bool.rec none (Bool.rec (Jx e ei.size v p.1 p.2 h) (some (v, h)) (Nat.beq p.1 0)) (Ai (Fl v) (Cl ei (Nat.add (Ey v) p.1)))) (Bs h ei.size x) : Option (AV × H)) = _
  rw [hsz, hx]
  show (Bool.rec none (Jx e sz v 1 ds h) (Ai (Fl v) (Cl ei (Nat.add (Ey v) 1))) : Option (AV × H)) = _
  rw [hl, hok, show Cl ei (Nat.add L.length 1) = true from hf]; rfl
 rw [e0]
 rcases hb with ⟨rfl, rfl⟩ | ⟨q, t, m, z, w, rfl, h1, h2, h3, h4, h5, h6⟩
 · refine ⟨.slice h.next 0 1 sz false, h.new (.row (Ah ds 0 .e) (Nat.mul 1 sz) 0 e false), rfl, .inr ⟨h.next, Ah ds 0 .e, Nat.mul 1 sz, 0, false, rfl, hlo, by rw [Bf]; omega, Ax _ _, Nat.le_refl _, Nat.zero_le _, ?_⟩, by rw [Bf]; omega, fun c hc _ => Dh hc⟩
   have := Pj.app (t := .e) (Pj.nil (sz := sz) (o := 0)) hd
   rwa [show ([] : List (List AV)).length * sz = 0 by simp] at this
 · have e1 : Jx e sz (.slice q 0 L.length sz false) 1 ds h = (Bool.rec none (Wv e q 0 L.length 1 sz ds h (Ec (h.at q))) (Nat.beq sz sz) : Option (AV × H)) := rfl
   rw [e1, Nat.beq_refl, h3]
   show ∃ v' h', (Bool.rec none (some (.slice h.next 0 (Nat.add L.length 1) sz false, (h.put q .dead).new (.row (Ah ds (Nat.add 0 (Nat.mul L.length sz)) t) (Nat.add 0 (Nat.mul (Nat.add L.length 1) sz)) z e false)))
    (Ai (Ai (Nat.beq e e) (Nat.beq 0 0)) (Ai (Nat.ble (Nat.add 0 (Nat.mul L.length sz)) m) (Nat.ble z (Nat.add 0 (Nat.mul L.length sz))))) : Option (AV × H)) = some (v', h') ∧ _
   have a1 : Nat.add 0 (Nat.mul L.length sz) = L.length * sz := Nat.zero_add _
   rw [a1, Nat.beq_refl, Nat.ble_eq_true_of_le h4, Nat.ble_eq_true_of_le h5]
   refine ⟨_, _, rfl, .inr ⟨h.next, _, _, z, false, ?_, hlo, ?_, Ax (h.put q .dead) _, ?_, ?_, h6.app hd⟩, ?_, fun c hc hne => ?_⟩
   · rw [List.length_append]; rfl
   · show h.next.nat < (P.succ h.next).nat
     rw [P.Dw]; omega
   · rw [List.length_append]
     show (L.length + 1) * sz ≤ 0 + (L.length + 1) * sz
     omega
   · rw [List.length_append, Nat.add_mul]; omega
   · show h.next.nat ≤ (P.succ h.next).nat
     rw [P.Dw]; omega
   · have hcq : c ≠ q := fun e' => hne _ _ _ _ (by rw [e'])
     rw [Dh (show c.nat < (h.put q .dead).next.nat from hc), Bx hcq]
theorem Ct.frame {e : TypeId} {sz lo : Nat} {h h' : H} {v : AV} {L : List (List AV)} (hb : Ct e sz lo h v L) (hn : h.next.nat ≤ h'.next.nat) (hf : ∀ c, c.nat < h.next.nat → lo ≤ c.nat → (∀ t m z w, h.at c = .row t m z e w → h'.at c = h.at c)) : Ct e sz lo h' v L := by
 rcases hb with ⟨rfl, rfl⟩ | ⟨q, t, m, z, w, rfl, h1, h2, h3, h4⟩
 · exact .inl ⟨rfl, rfl⟩
 · exact .inr ⟨q, t, m, z, w, rfl, h1, by omega, by rw [hf q h2 h1 _ _ _ _ h3]; exact h3, h4⟩
def Kp (e : TypeId) (lo : Nat) (h h' : H) : Prop := h.next.nat ≤ h'.next.nat ∧ ∀ c, c.nat < h.next.nat → (c.nat < lo ∨ ∃ t m z e' w, h.at c = .row t m z e' w ∧ e' ≠ e) → h'.at c = h.at c
theorem Kp.new {e : TypeId} {lo : Nat} {h : H} {o : Ob FT} : Kp e lo h (h.new o) := ⟨by rw [Bf]; omega, fun _ hc _ => Dh hc⟩
theorem Kp.trans {e : TypeId} {lo : Nat} {h h1 h2 : H} (a : Kp e lo h h1) (b : Kp e lo h1 h2) : Kp e lo h h2 := by
 refine ⟨Nat.le_trans a.1 b.1, fun c hc hh => ?_⟩
 have e1 := a.2 c hc hh
 rw [b.2 c (Nat.lt_of_lt_of_le hc a.1) (by rw [e1]; exact hh), e1]
def Exh (h h' : H) : Prop := h.next.nat ≤ h'.next.nat ∧ ∀ c, c.nat < h.next.nat → h'.at c = h.at c
theorem Exh.refl {h : H} : Exh h h := ⟨Nat.le_refl _, fun _ _ => rfl⟩
theorem Exh.trans {h h1 h2 : H} (a : Exh h h1) (b : Exh h1 h2) : Exh h h2 := ⟨Nat.le_trans a.1 b.1, fun c hc => by rw [b.2 c (Nat.lt_of_lt_of_le hc a.1), a.2 c hc]⟩
theorem Exh.new {h : H} {o : Ob FT} : Exh h (h.new o) := ⟨by rw [Bf]; omega, fun _ hc => Dh hc⟩
theorem Exh.kp {e : TypeId} {lo : Nat} {hE h h' : H} (a : Exh hE h) (hl : hE.next.nat ≤ lo) (b : Kp e lo h h') : Exh hE h' :=
 ⟨Nat.le_trans a.1 b.1, fun c hc => by rw [b.2 c (Nat.lt_of_lt_of_le hc a.1) (.inl (by omega)), a.2 c hc]⟩
theorem Rd.ext {sz : Nat} {h h' : H} {v : AV} {L : List (List AV)} (hr : Rd sz h v L) (hx : Exh h h') : Rd sz h' v L := hr.frame hx.1 fun c hc _ _ _ _ _ => hx.2 c hc
theorem Ct.ext {e : TypeId} {sz lo : Nat} {h h' : H} {v : AV} {L : List (List AV)} (hb : Ct e sz lo h v L) (hx : Exh h h') : Ct e sz lo h' v L := hb.frame hx.1 fun c hc _ _ _ _ _ _ => hx.2 c hc
theorem Ct.kp {e e' : TypeId} {sz lo lo' : Nat} {h h' : H} {v : AV} {L : List (List AV)} (hb : Ct e sz lo h v L) (hx : Kp e' lo' h h') (he : e ≠ e') : Ct e sz lo h' v L := hb.frame hx.1 fun c hc _ t m z w ha => hx.2 c hc (.inr ⟨t, m, z, e, w, ha, he⟩)
theorem Bhe {e : TypeId} {sz lo : Nat} {ei : TI} {h : H} {v x : AV} {L : List (List AV)} {ds : List AV} (hb : Ct e sz lo h v L) (hx : Bs h sz x = some (1, ds)) (hd : ds.length = sz) (hsz : ei.size = sz) (hf : Cl ei (L.length + 1) = true) (hlo : lo ≤ h.next.nat) :
 ∃ v' h', Db (some false) v x h e ei = some (v', h') ∧ Ct e sz lo h' v' (L ++ [ds]) ∧ Kp e lo h h' := by
 obtain ⟨v', h', a, b, c, d⟩ := Bhc hb hx hd hsz hf hlo
 refine ⟨v', h', a, b, c, fun p hp hh => d p hp fun o n z b' ev => ?_⟩
 rcases hb with ⟨rfl, _⟩ | ⟨q, t, m, z', w, rfl, h1, h2, h3, _⟩
 · cases ev
 · cases ev
   rcases hh with hh | ⟨t', m', z'', e', w', hr, hne⟩
   · omega
   · rw [h3] at hr; cases hr; exact hne rfl
theorem Ag0 {e : TypeId} {sz lo : Nat} {ei : TI} {h : H} {v : AV} {L : List (List AV)} {ds : List AV} {t : Tm} (hb : Ct e sz lo h v L) (hd : ds.length = sz) (hsz : ei.size = sz) (hf : Cl ei (L.length + 1) = true) (hlo : lo ≤ h.next.nat) {k : KV} (hk : ∀ v' h', Ct e sz lo h' v' (L ++ [ds]) → Kp e lo h h' → k v' h') :
 oK (Db (some false) v (.slice h.next 0 1 sz true) (h.new (.row (Ah ds 0 t) sz 0 e true)) e ei) k := by
 obtain ⟨v', h', a, b, c⟩ := Bhe (hb.ext Exh.new) (Yc hd) hd hsz hf (Nat.le_trans hlo (by rw [Bf]; omega))
 rw [a, Ae]
 exact hk _ _ b (Kp.new.trans c)
end Go.Den
noncomputable section
namespace Go.Den
open Go.RowKit
def Pf (t : TypeId) : TI := Option.rec ei8 (fun t => t) (env.ty t)
theorem Wo {ei : TI} {n : Nat} (h1 : Ai (Nat.beq (len ei.zero) ei.size) (Nat.ble 1 ei.size) = true) (hb : Nat.ble ei.bytes 128 = true) (hn : n ≤ 1099511627776) : Cl ei n = true := by
 have hb := Nat.le_of_ble_eq_true hb
 have e : Cl ei n = Ai (Ai (Nat.beq (len ei.zero) ei.size) (Nat.ble 1 ei.size)) (Ai (Nat.ble n 1099511627776) (Nat.ble (Nat.mul n ei.bytes) 140737488355328)) := rfl
 have h3 : n * ei.bytes ≤ 1099511627776 * 128 := Nat.mul_le_mul hn hb
 rw [e, h1, Nat.ble_eq_true_of_le hn, Nat.ble_eq_true_of_le (show Nat.mul n ei.bytes ≤ 140737488355328 from h3)]; rfl
def Z69 : Tm := Ah [.int .u8 (.ofNat 0), .int .i64 (.ofNat 0), .int .i64 (.ofNat 0)] 0 .e
theorem Bg2 (a b c : AV) (h : H) : An env 171 (fun e ei => Aj 1 [(0, .agg [a, b, c])] h e ei) = some (.slice h.next 0 1 3 true, h.new (.row (Ah [a, b, c] 0 Z69) 3 0 174 true)) := by kernel_rfl
theorem Bhh (x y : AV) (h : H) : Ao env .append [171, 171] [x, y] h = Db (some false) x y h 174 (Pf 174) := by kernel_rfl
theorem Au7 (a b c : Int) (h : H) : Bv env (env.ty 174) [(0, .int .u8 a), (1, .int .i64 b), (2, .int .i64 c)] h = some (.agg [.int .u8 a, .int .i64 b, .int .i64 c], h) := by kernel_rfl
theorem Bji : (Pf 174).size = 3 := by kernel_rfl
theorem A5z {n : Nat} (hn : n ≤ 1099511627776) : Cl (Pf 174) n = true := Wo (by kernel_rfl) (by kernel_rfl) hn
theorem Apf {lo : Nat} {h : H} {v : AV} {L : List (List AV)} {a b c : AV} (hb : Ct 174 3 lo h v L) (hl : L.length + 1 ≤ 1099511627776) (hlo : lo ≤ h.next.nat) {k : KV} (hk : ∀ v' h', Ct 174 3 lo h' v' (L ++ [[a, b, c]]) → Kp 174 lo h h' → k v' h') :
 oK (An env 171 (fun e ei => Aj 1 [(0, .agg [a, b, c])] h e ei)) fun x h' => oK (Ao env .append [171, 171] [v, x] h') k := by
 rw [Bg2, Ae, Bhh]
 exact Ag0 hb rfl Bji (A5z hl) hlo hk
def rn (x : UInt8) (i j : Nat) : List AV := [ub x, .int .i64 (.ofNat i), .int .i64 (.ofNat j)]
def Rns (L : List (List AV)) (B : List UInt8) : Prop := L.length = B.length ∧ ∀ i (hi : i < B.length) (hi' : i < L.length), ∃ f t : Nat, f ≤ 1000001 ∧ t ≤ 1000001 ∧ L[i] = rn B[i] f t
def Rs (h : H) (v : AV) (B : List UInt8) : Prop := ∃ L, Rd 3 h v L ∧ Rns L B
theorem Rs.ext {h h' : H} {v : AV} {B : List UInt8} (hr : Rs h v B) (hx : Exh h h') : Rs h' v B := by
 obtain ⟨L, a, b⟩ := hr; exact ⟨L, a.ext hx, b⟩
def bt (B : List UInt8) (i : Nat) : UInt8 := B.getD i 0
theorem Vp {B : List UInt8} {i : Nat} (h : i < B.length) : bt B i = B[i] := by unfold bt; rw [List.getD_eq_getElem?_getD, List.getElem?_eq_getElem h]; rfl
theorem Sm {B : List UInt8} {i : Nat} (h : B.length ≤ i) : bt B i = 0 := by unfold bt; rw [List.getD_eq_getElem?_getD, List.getElem?_eq_none h]; rfl
theorem Rs.at0 {h : H} {v : AV} {B : List UInt8} (hr : Rs h v B) {i : Nat} (hi : i < B.length) {K : AV → Prop} (hk : K (ub B[i])) : Ca 3 i v fun a => Aq 0 a fun a => ld1 a h K := by
 obtain ⟨L, r, hL⟩ := hr
 have e' : i < L.length := by rw [hL.1]; exact hi
 obtain ⟨f, t, _, _, hc⟩ := hL.2 i hi e'
 refine r.fld (j := 0) e' (by rw [hc]; exact Nat.zero_lt_succ _) ?_
 simp only [hc, rn, List.getElem_cons_zero]
 exact hk
theorem Rs.len {h : H} {v : AV} {B : List UInt8} (hr : Rs h v B) {K : Nat → Prop} : Ef v K = K B.length := by
 obtain ⟨L, r, hL⟩ := hr
 rw [r.len, hL.1]
theorem Lf {h : H} {v : AV} {B : List UInt8} {i : Nat} {k : KV} (hr : Rs h v B) (hk : k (ub (bt B i)) h) : W1 (.func 129) [v, .int .i64 (Int.ofNat i)] h k := by
 refine Bat (n := 1) Bn (Bk6 ?_)
 unfold Ae1
 refine Ma (b := decide (B.length ≤ i)) (fun k' hk' => ?_) ?_
 · rw [hr.len, ile]; exact hk'
 rw [show Cs (Int.ofNat i) (Int.ofNat 0) = false by rw [ilt]; simp, Bool.false_or]
 refine Aw (fun e => ?_) (fun e => ?_)
 · have e := of_decide_eq_true e
   rw [Sm e] at hk; exact hk
 · have e := of_decide_eq_false e
   rw [Ar]
   refine hr.at0 (by omega) ?_
   unfold ub
   rw [Au]
   rw [Vp (by omega)] at hk; exact hk
def Dx (x : UInt8) : Bool := (decide (97 ≤ x.toNat) && decide (x.toNat ≤ 122)) || (decide (65 ≤ x.toNat) && decide (x.toNat ≤ 90)) || decide (x.toNat = 95)
def isDigit (x : UInt8) : Bool := decide (48 ≤ x.toNat) && decide (x.toNat ≤ 57)
def Gr (x : UInt8) : Bool := decide (x.toNat = 32) || decide (x.toNat = 9) || (decide (11 ≤ x.toNat) && decide (x.toNat ≤ 13))
theorem A86 (x : UInt8) : Pure PP G h0 132 [ub x] (.bool (Dx x)) := by
 refine Baq (n := 1) Bn (Bk3 ?_)
 unfold Aex
 refine So ?_
 refine Ma (b := (decide (65 ≤ x.toNat) && decide (x.toNat ≤ 90))) (fun k' hk' => ?_) ?_
 · refine So ?_; rw [ile, ile]; exact hk'
 refine Kg ?_
 rw [ile, ile, Ko]; rfl
theorem A0p (x : UInt8) : Pure PP G h0 133 [ub x] (.bool (isDigit x)) := by
 refine Bap (n := 1) Bn (Bk2 ?_)
 unfold Aew
 refine So ?_
 rw [ile, ile]; rfl
theorem c78 (x : UInt8) : Pure PP G h0 78 [ub x] (.bool (Gr x)) := by
 refine w78 (n := 1) Bn (g78 ?_)
 unfold Amz
 refine Kg ?_
 refine Ma (b := (decide (11 ≤ x.toNat) && decide (x.toNat ≤ 13))) (fun k' hk' => ?_) ?_
 · refine So ?_; rw [ile, ile]; exact hk'
 rw [Ko, Ko]; rfl
theorem Bgg (v : AV) (h : H) : Fz env h 115 9 v = Yq env 115 v h := by kernel_rfl
theorem cvb (b : P) (o n : Nat) (h : H) : Ro env 115 b o n h = (Option.rec none (fun cs => Ng h (Er cs)) (h.read b o n) : Option (AV × H)) := by kernel_rfl
theorem Ab8 (h : H) (l : List UInt8) : Ng h (Er (ubs l)) = some (S l, h) := by
 rw [Vm]
 show some (strOf (l.map (·.toNat)), h) = _
 rw [Akh]
theorem Ty {h : H} {q : P} {t : Tm} {m z n : Nat} {e : TypeId} {w : Bool} (ha : h.at q = .row t m z e w) (hn : n ≤ m) : h.read q 0 n = some (Cp t n 0) := by
 unfold Hp.read Hp.Ix
 rw [ha]
 show (Pv 0 n none some t m : Option (List AV)) = _
 unfold Pv
 rw [show Nat.ble (Nat.add 0 n) m = true from Nat.ble_eq_true_of_le (by show 0 + n ≤ m; omega)]
theorem Ajn {h : H} {q : P} {t : Tm} {m z : Nat} {w : Bool} {l : List UInt8} {ti : Bool} (ha : h.at q = .row t m z TB w) (hm : l.length ≤ m) (hc : Dy t l) : Fz env h 115 9 (.slice q 0 l.length 1 ti) = some (S l, h) := by
 rw [Bgg]
 show Ro env 115 q 0 l.length h = _
 rw [cvb, Ty ha hm, hc.get]
 exact Ab8 h l
def eb (l : List UInt8) : List (List AV) := l.map fun x => [ub x]
theorem Mf (l : List UInt8) : (eb l).length = l.length := by unfold eb; simp
theorem Az9 (l : List UInt8) (x : UInt8) : eb (l ++ [x]) = eb l ++ [[ub x]] := by unfold eb; simp
theorem Agl {l : List UInt8} {i : Nat} (h : i < l.length) (h' : i < (eb l).length) : (eb l)[i] = [ub l[i]] := List.getElem_map (fun x => [ub x]) (h := h')
theorem Ao5 {lo : Nat} {h : H} {v : AV} {l : List UInt8} (hb : Ct TB 1 lo h v (eb l)) : Fz env h 115 9 v = some (S l, h) := by
 rcases hb with ⟨rfl, e⟩ | ⟨q, t, m, z, w, rfl, h1, h2, h3, h4, h5, h6⟩
 · have : l = [] := by cases l with
    | nil => rfl
    | cons x l => exact absurd e (by unfold eb; simp)
   subst this
   rw [Bgg]; rfl
 · rw [Mf] at h4
   rw [Mf]
   refine Ajn h3 (by omega) fun i hi => ?_
   have := (h6 i (by rw [Mf]; exact hi)).2 0 (by rw [Agl hi]; exact Nat.one_pos)
   simp only [Agl hi, List.getElem_cons_zero] at this
   rw [← this]
   congr 1; omega
theorem Aj1 {lo : Nat} {h : H} {v : AV} {l : List UInt8} {x : UInt8} (hb : Ct TB 1 lo h v (eb l)) (hl : l.length + 1 ≤ 1099511627776) (hlo : lo ≤ h.next.nat) {k : KV} (hk : ∀ v' h', Ct TB 1 lo h' v' (eb (l ++ [x])) → Kp TB lo h h' → k v' h') :
 oK (An env 115 (fun e ei => Aj 1 [(0, .int .u8 (Int.ofNat x.toNat))] h e ei)) fun x h' => oK (Ao env .append [115, 115] [v, x] h') k := by
 rw [A0v, Ae, Aw1]
 exact Ag0 (ds := [ub x]) hb rfl (by rfl) (Ai7 (by rw [Mf]; exact hl)) hlo (by rw [← Az9]; exact hk)
theorem A10 {hE : H} {B : List UInt8} {v0 : AV} {k : KV} (hl : B.length ≤ 1000000) (hr : Rs hE v0 B) (hk : ∀ h', Exh hE h' → k (S B) h') : ∀ (n i : Nat) {h : H} {v : AV}, B.length - i < n → i ≤ B.length → Exh hE h → Ct TB 1 hE.next.nat h v (eb (B.take i)) → (r81 W1 k n).a1 v0 v (Int.ofNat i) h
 | 0, _, _, _, hn, _, _, _ => absurd hn (Nat.not_lt_zero _)
 | n + 1, i, h, v, hn, hi, hx, hb => by
  refine Bdr ?_
  unfold Ams
  have hr' := hr.ext hx
  rw [hr'.len, ilt]
  refine Aw (fun e => ?_) (fun e => ?_)
  · have e : i < B.length := of_decide_eq_true e
    rw [Ar]
    refine hr'.at0 e ?_
    unfold ub
    rw [Au]
    refine Aj1 hb (by rw [List.length_take]; omega) hx.1 fun v' h' hb' hk' => ?_
    rw [Dl, Co (by omega), As]
    refine A10 hl hr hk n (i + 1) (by omega) e (hx.kp (Nat.le_refl _) hk') ?_
    rw [List.take_succ_eq_append_getElem e]; exact hb'
  · have e : i = B.length := by have := of_decide_eq_false e; omega
    subst e
    rw [List.take_length] at hb
    rw [Ao5 hb, Ae]
    exact hk _ hx
theorem c81 {B : List UInt8} {v0 : AV} {h : H} {k : KV} (hl : B.length ≤ 1000000) (hr : Rs h v0 B) (hk : ∀ h', Exh h h' → k (S B) h') : W1 (.func 81) [v0] h k := by
 refine w81 (n := B.length + 2) Bn (g81 ?_)
 unfold Amt
 exact A10 hl hr hk _ 0 (by omega) (Nat.zero_le _) Exh.refl (.inl ⟨rfl, rfl⟩)
def Un (B : List UInt8) (i : Nat) : Int :=
 if decide (bt B i = 34) || decide (bt B i = 39) then Int.ofNat 0
 else if (decide (bt B i = 117) && decide (bt B (i + 1) = 56)) && decide (bt B (i + 2) = 34) then Int.ofNat 2
 else if ((decide (bt B i = 76) || decide (bt B i = 117)) || decide (bt B i = 85)) && (decide (bt B (i + 1) = 34) || decide (bt B (i + 1) = 39)) then Int.ofNat 1
 else Int.negSucc 0
theorem Sw (x : UInt8) (n : Nat) (y : UInt8) (hy : y.toNat = n) : Az (Int.ofNat x.toNat) (Int.ofNat n) = decide (x = y) := by
 subst hy; exact Pd x y
theorem A88 {h : H} {v : AV} {B : List UInt8} {i : Nat} {k : KV} (hr : Rs h v B) (hi : i ≤ 1000000) (hk : k (.int .i64 (Un B i)) h) : W1 (.func 130) [v, .int .i64 (Int.ofNat i)] h k := by
 refine Bas (n := 1) Bn (Bk5 ?_)
 unfold Ae0
 refine Lf hr ?_
 unfold ub
 rw [Au]
 refine Kg ?_
 rw [Sw _ 34 34 rfl, Sw _ 39 39 rfl]
 unfold Un at hk
 refine Aw (fun e => ?_) (fun e => ?_)
 · rw [if_pos e] at hk; exact hk
 rw [if_neg (by rw [e]; exact Bool.false_ne_true)] at hk
 refine Li (b := decide (bt B (i + 1) = 56)) (fun k' hk' => ?_) ?_
 · rw [Dl, Co (by omega), As]
   refine Lf hr ?_
   unfold ub
   rw [Au, Sw _ 56 56 rfl]; exact hk'
 refine Li (b := decide (bt B (i + 2) = 34)) (fun k' hk' => ?_) ?_
 · rw [Dl, Co (by omega), As]
   refine Lf hr ?_
   unfold ub
   rw [Au, Sw _ 34 34 rfl]; exact hk'
 rw [Sw _ 117 117 rfl]
 refine Aw (fun e => ?_) (fun e => ?_)
 · rw [if_pos e] at hk; exact hk
 rw [if_neg (by rw [e]; exact Bool.false_ne_true)] at hk
 refine Kg ?_
 refine Kg ?_
 refine Li (b := (decide (bt B (i + 1) = 34) || decide (bt B (i + 1) = 39))) (fun k' hk' => ?_) ?_
 · rw [Dl, Co (by omega), As]
   refine Lf hr ?_
   unfold ub
   rw [Au]
   refine Ma (b := decide (bt B (i + 1) = 39)) (fun k'' hk'' => ?_) ?_
   · rw [As]
     refine Lf hr ?_
     unfold ub
     rw [Au, Sw _ 39 39 rfl]; exact hk''
   rw [Sw _ 34 34 rfl]; exact hk'
 rw [Sw _ 76 76 rfl, Sw _ 85 85 rfl]
 refine Aw (fun e => ?_) (fun e => ?_)
 · rw [if_pos e] at hk; exact hk
 · rw [if_neg (by rw [e]; exact Bool.false_ne_true)] at hk; exact hk
theorem A8z {h : H} {v : AV} {B : List UInt8} {i : Nat} {k : KV} (hr : Rs h v B) (hi : i ≤ 1000000) (hc : bt B i ≠ 47 ∨ (bt B (i + 1) ≠ 47 ∧ bt B (i + 1) ≠ 42)) (hk : k (.tuple [.int .i64 (Int.ofNat i), .bool false]) h) : W1 (.func 79) [v, .int .i64 (Int.ofNat i)] h k := by
 refine w79 (n := 1) Bn (g79 ?_)
 unfold Ahq
 refine Lf hr ?_
 unfold ub
 rw [Au, Sw _ 47 47 rfl]
 refine Aw (fun e => hk) (fun e => ?_)
 have e : bt B i = 47 := by
  by_cases h' : bt B i = 47
  · exact h'
  · rw [show Cw (decide (bt B i = 47)) = true by rw [decide_eq_false h']; rfl] at e; cases e
 have hc : bt B (i + 1) ≠ 47 ∧ bt B (i + 1) ≠ 42 := by
  rcases hc with hc | hc
  · exact absurd e hc
  · exact hc
 rw [Dl, Co (by omega), As]
 refine Lf hr ?_
 unfold ub
 rw [Au, Sw _ 47 47 rfl, decide_eq_false hc.1]
 refine Bp rfl ?_
 rw [As]
 refine Lf hr ?_
 unfold ub
 rw [Au, Sw _ 42 42 rfl, decide_eq_false hc.2]
 exact Cg rfl hk
end Go.Den
noncomputable section
namespace Go.Den
open Go.RowKit
def Cr : List (List UInt8) := [[37, 58, 37, 58], [46, 46, 46], [60, 60, 61], [62, 62, 61], [45, 62], [43, 43], [45, 45], [60, 60], [62, 62], [60, 61], [62, 61], [61, 61], [33, 61], [38, 38], [124, 124], [42, 61], [47, 61], [37, 61], [43, 61], [45, 61], [38, 61], [94, 61], [124, 61], [35, 35], [60, 58], [58, 62], [60, 37], [37, 62], [37, 58],
 [91], [93], [40], [41], [123], [125], [46], [38], [42], [43], [45], [126], [33], [47], [37], [60], [62], [94], [124], [63], [58], [59], [61], [44], [35]]
def T62 : Tm := Option.rec .e (fun t => t) (Xk (Wc 1) 54 [(0, (.str 4 975518245)), (1, (.str 3 3026478)), (2, (.str 3 4013116)), (3, (.str 3 4013630)), (4, (.str 2 15917)), (5, (.str 2 11051)), (6, (.str 2 11565)), (7, (.str 2 15420)), (8, (.str 2 15934)), (9, (.str 2 15676)), (10, (.str 2 15678)), (11, (.str 2 15677)), (12, (.str 2 15649)), (13, (.str 2 9766)), (14, (.str 2 31868)), (15, (.str 2 15658)), (16, (.str 2 15663)), (17, (.str 2 15653)), (18, (.str 2 15659)), (19, (.str 2 15661)), (20, (.str 2 15654)), (21, (.str 2 15710)), (22, (.str 2 15740)), (23, (.str 2 8995)), (24, (.str 2 14908)), (25, (.str 2 15930)), (26, (.str 2 9532)), (27, (.str 2 15909)), (28, (.str 2 14885)), (29, (.str 1 91)), (30, (.str 1 93)), (31, (.str 1 40)), (32, (.str 1 41)), (33, (.str 1 123)), (34, (.str 1 125)), (35, (.str 1 46)), (36, (.str 1 38)), (37, (.str 1 42)), (38, (.str 1 43)), (39, (.str 1 45)), (40, (.str 1 126)), (41, (.str 1 33)), (42, (.str 1 47)), (43, (.str 1 37)), (44, (.str 1 60)), (45, (.str 1 62)), (46, (.str 1 94)), (47, (.str 1 124)), (48, (.str 1 63)), (49, (.str 1 58)), (50, (.str 1 59)), (51, (.str 1 61)), (52, (.str 1 44)), (53, (.str 1 35))] (Ah (Kc [.str 0 0] 54) 0 .e))
theorem Ara : Cp T62 54 0 = Cr.map fun p => .str (len p) (enc p) := by kernel_rfl
theorem Bmn {h : H} {k : KV} (hk : k (.slice h.next 0 54 1 true) (h.new (.row T62 54 0 9 true))) : W1 (.func 182) [] h k := by
 refine Bab (n := 1) Bn (Bko ?_)
 unfold Ad4
 rw [show An env 44 (fun e ei => Aj 54 [(0, (.str 4 975518245)), (1, (.str 3 3026478)), (2, (.str 3 4013116)), (3, (.str 3 4013630)), (4, (.str 2 15917)), (5, (.str 2 11051)), (6, (.str 2 11565)), (7, (.str 2 15420)), (8, (.str 2 15934)), (9, (.str 2 15676)), (10, (.str 2 15678)), (11, (.str 2 15677)), (12, (.str 2 15649)), (13, (.str 2 9766)), (14, (.str 2 31868)), (15, (.str 2 15658)), (16, (.str 2 15663)), (17, (.str 2 15653)), (18, (.str 2 15659)), (19, (.str 2 15661)), (20, (.str 2 15654)), (21, (.str 2 15710)), (22, (.str 2 15740)), (23, (.str 2 8995)), (24, (.str 2 14908)), (25, (.str 2 15930)), (26, (.str 2 9532)), (27, (.str 2 15909)), (28, (.str 2 14885)), (29, (.str 1 91)), (30, (.str 1 93)), (31, (.str 1 40)), (32, (.str 1 41)), (33, (.str 1 123)), (34, (.str 1 125)), (35, (.str 1 46)), (36, (.str 1 38)), (37, (.str 1 42)), (38, (.str 1 43)), (39, (.str 1 45)), (40, (.str 1 126)), (41, (.str 1 33)), (42, (.str 1 47)), (43, (.str 1 37)), (44, (.str 1 60)), (45, (.str 1 62)), (46, (.str 1 94)), (47, (.str 1 124)), (48, (.str 1 63)), (49, (.str 1 58)), (50, (.str 1 59)), (51, (.str 1 61)), (52, (.str 1 44)), (53, (.str 1 35))] h e ei)
  = some (.slice h.next 0 54 1 true, h.new (.row T62 54 0 9 true)) by kernel_rfl, Ae]
 exact hk
def es (l : List (List UInt8)) : List (List AV) := l.map fun x => [S x]
theorem Aa1 (l : List (List UInt8)) : (es l).length = l.length := by unfold es; simp
theorem Alm {l : List (List UInt8)} {i : Nat} (h : i < l.length) (h' : i < (es l).length) : (es l)[i] = [S l[i]] := List.getElem_map (fun x => [S x]) (h := h')
theorem Bjt (h : H) : Rd 1 (h.new (.row T62 54 0 9 true)) (.slice h.next 0 54 1 true) (es Cr) := by
 refine ⟨h.next, 0, T62, 54, 0, 9, true, true, rfl, by rw [Bf]; omega, Ax _ _, by rw [Aa1]; decide, fun i hi => ?_⟩
 have hi' : i < Cr.length := by rw [Aa1] at hi; exact hi
 rw [Alm hi']
 refine ⟨rfl, fun j hj => ?_⟩
 have hj : j = 0 := by simp at hj; exact hj
 subst hj
 have e : Cp T62 54 0 = Cr.map fun p => S p := by
  rw [Ara]
  refine List.map_congr_left fun p _ => ?_
  rw [Di]
 have h1 : (Cp T62 54 0)[i]? = some (S Cr[i]) := by
  rw [e, List.getElem?_map, List.getElem?_eq_getElem hi']; rfl
 rw [Gx, List.getElem?_map, List.getElem?_range (show i < 54 from hi')] at h1
 have h2 := Option.some.inj h1
 show Bd T62 (0 + i * 1 + 0) = _
 rw [show 0 + i * 1 + 0 = 0 + i by omega]; exact h2
theorem Rd.str {h : H} {v : AV} {l : List (List UInt8)} (hr : Rd 1 h v (es l)) {i : Nat} (hi : i < l.length) {K : AV → Prop} (hk : K (S l[i])) : Ca 1 i v fun a => Go.Den.ld1 a h K := by
 have hi' : i < (es l).length := by rw [Aa1]; exact hi
 have hc := Alm hi hi'
 refine hr.elem hi' fun q o _ _ ha => ?_
 have := ha.ld1 (j := 0) (K := K) (by rw [hc]; exact Nat.one_pos) (by simp only [hc, List.getElem_cons_zero]; exact hk)
 exact this
def pre (B : List UInt8) : Nat → List UInt8 → Bool
 | _, [] => true
 | i, x :: p => decide (bt B i = x) && pre B (i + 1) p
def Ta (B : List UInt8) (i : Nat) : List (List UInt8) → Nat
 | [] => 0
 | p :: ps => if pre B i p = true then p.length else Ta B i ps
theorem Bde : ∀ p ∈ Cr, p.length ≤ 4 := by decide
theorem Awf {h : H} {v w : AV} {B : List UInt8} {i : Nat} {k : KV} (hr : Rs h v B) (hp : Rd 1 h w (es Cr)) (hi : i ≤ 1000000) : ∀ (n : Nat),
    (∀ q, q ≤ 54 → 12 * (54 - q) + 2 ≤ n → k (.int .i64 (Int.ofNat (Ta B i (Cr.drop q)))) h → (Zr W1 k n).a1 v (Int.ofNat i) w (Int.ofNat q) h) ∧
    (∀ q (hq : q < Cr.length) j, j ≤ Cr[q].length → 12 * (54 - q) + 1 - j ≤ n → k (.int .i64 (Int.ofNat (if pre B (i + j) (Cr[q].drop j) = true then Cr[q].length else Ta B i (Cr.drop (q + 1))))) h → (Zr W1 k n).a2 v (Int.ofNat i) w (Int.ofNat q) (Int.ofNat j) h)
  | 0 => ⟨fun q _ hn => absurd hn (by omega), fun q hq j hj hn => by
      have := Bde _ (List.getElem_mem hq)
      have hq' : q < 54 := hq
      omega⟩
  | n + 1 => by
    have ih := Awf hr hp hi (k := k) n
    refine ⟨fun q hq hn hk => ?_, fun q hq j hj hn hk => ?_⟩
    · refine A5b ?_
      unfold Aes
      rw [hp.len, Aa1, ilt]
      refine Aw (fun e => ?_) (fun e => ?_)
      · have e : q < Cr.length := of_decide_eq_true e
        refine ih.2 q e 0 (Nat.zero_le _) (by omega) ?_
        rw [List.drop_eq_getElem_cons e] at hk
        exact hk
      · have e : ¬ q < Cr.length := of_decide_eq_false e
        rw [List.drop_eq_nil_of_le (by omega)] at hk; exact hk
    · have hq' : q ≤ 53 := Nat.le_of_lt_succ hq
      have hl4 := Bde _ (List.getElem_mem hq)
      refine A5a ?_
      unfold Aer
      rw [Ar]
      refine hp.str hq ?_
      rw [Ch, ilt]
      refine Gu (fun e => ?_) (fun e => ?_)
      · have e : j < Cr[q].length := of_decide_eq_true e
        rw [Dl, Co (by omega), As, Ar]
        have hq2 : q < (es Cr).length := by rw [Aa1]; exact hq
        have hc := Alm hq hq2
        refine hp.elem hq2 fun b o _ _ ha => ?_
        have ld : ∀ {K : AV → Prop}, K (S (Cr[q]'hq)) → ld1 (.ptr b o) h K := fun {K} hK => by
          have := ha.ld1 (j := 0) (K := K) (by rw [hc]; exact Nat.one_pos) (by simp only [hc, List.getElem_cons_zero]; exact hK)
          exact this
        refine ld ?_
        rw [Ch, Ar]
        refine Ck e ?_
        refine Lf hr ?_
        unfold ub
        rw [Au]
        refine ld ?_
        rw [Ch]
        have heq : ∀ {A : Prop}, A → eqC (S (Cr[q]'hq)) (S (Cr[q]'hq)) A := fun {A} hA => by
          show Bool.rec Ak A (Pg 4 (S (Cr[q]'hq)) (S (Cr[q]'hq)))
          have : Pg 4 (S (Cr[q]'hq)) (S (Cr[q]'hq)) = true := by
            show Ai (Nat.beq _ _) (Nat.beq _ _) = true
            rw [Nat.beq_refl, Nat.beq_refl]; rfl
          rw [this]; exact hA
        refine heq ?_
        have hd : (Cr[q]'hq).drop j = (Cr[q]'hq)[j] :: (Cr[q]'hq).drop (j + 1) := List.drop_eq_getElem_cons e
        rw [hd] at hk
        rw [Pd]
        refine Aw (fun e2 => ?_) (fun e2 => ?_)
        · rw [Dl, Co (by omega), As]
          refine ih.2 q hq (j + 1) e (by omega) ?_
          show k (.int .i64 (Int.ofNat (if pre B (i + j + 1) _ = true then _ else _))) h
          have : pre B (i + j) ((Cr[q]'hq)[j] :: (Cr[q]'hq).drop (j + 1)) = pre B (i + j + 1) ((Cr[q]'hq).drop (j + 1)) := by
            show (decide (bt B (i + j) = (Cr[q]'hq)[j]) && _) = _
            rw [e2, Bool.true_and]
          rw [this] at hk; exact hk
        · refine hp.str hq ?_
          rw [Ch, Ko, decide_eq_false (by omega)]
          refine Bp rfl ?_
          rw [Dl, Co (by omega), As]
          refine ih.1 (q + 1) hq (by omega) ?_
          have : pre B (i + j) ((Cr[q]'hq)[j] :: (Cr[q]'hq).drop (j + 1)) = false := by
            show (decide (bt B (i + j) = (Cr[q]'hq)[j]) && _) = _
            rw [e2, Bool.false_and]
          rw [this, if_neg Bool.false_ne_true] at hk; exact hk
      · have e : j = (Cr[q]'hq).length := by have := of_decide_eq_false e; omega
        refine Bp rfl ?_
        rw [Ar]
        refine hp.str hq ?_
        rw [Ch, Ko, decide_eq_true e]
        refine Cg rfl ?_
        rw [e, List.drop_length] at hk
        rw [e]
        exact hk
theorem Bmw {h : H} {v : AV} {B : List UInt8} {i : Nat} {k : KV} (hr : Rs h v B) (hi : i ≤ 1000000) (hk : ∀ h', Exh h h' → k (.int .i64 (Int.ofNat (Ta B i Cr))) h') : W1 (.func 135) [v, .int .i64 (Int.ofNat i)] h k := by
 refine Ban (n := 1000) Bn (Bk0 ?_)
 unfold Aet
 refine Bmn ?_
 exact (Awf (hr.ext Exh.new) (Bjt h) hi 999).1 0 (by omega) (by omega) (hk _ Exh.new)
end Go.Den
noncomputable section
namespace Go.Den
open Go.RowKit
theorem Ben (l c : Nat) (a b : Int) (h : H) : Bv env (env.ty 38) [(0, .str l c), (1, .int .i64 a), (2, .int .i64 b)] h = some (.agg [.str l c, .int .i64 a, .int .i64 b], h) := by kernel_rfl
theorem Bem (a : Int) (l c : Nat) (b : Bool) (x y z : AV) (h : H) : Bv env (env.ty 43) [(0, .int .i64 a), (1, .str l c), (2, .bool b), (3, .agg [x, y, z])] h = some (.agg [.int .i64 a, .str l c, .bool b, x, y, z, .bool false, .Ad], h) := by kernel_rfl
theorem Bek (a : Int) (h : H) : Bv env (env.ty 114) [(1, .int .i64 a)] h = some (.agg [.Ad, .int .i64 a, .int .i64 (.ofNat 0), .bool false], h) := by kernel_rfl
def Z47 : Tm := Ah [.int .i64 (.ofNat 0), .str 0 0, .bool false, .str 0 0, .int .i64 (.ofNat 0), .int .i64 (.ofNat 0), .bool false, .Ad] 0 .e
theorem Bg5 (a b c d e f g i : AV) (h : H) : An env 22 (fun t ei => Aj 1 [(0, .agg [a, b, c, d, e, f, g, i])] h t ei) = some (.slice h.next 0 1 8 true, h.new (.row (Ah [a, b, c, d, e, f, g, i] 0 Z47) 8 0 43 true)) := by kernel_rfl
theorem Bhj (x y : AV) (h : H) : Ao env .append [22, 22] [x, y] h = Db (some false) x y h 43 (Pf 43) := by kernel_rfl
theorem Bjl : (Pf 43).size = 8 := by kernel_rfl
theorem A52 {n : Nat} (hn : n ≤ 1099511627776) : Cl (Pf 43) n = true := Wo (by kernel_rfl) (by kernel_rfl) hn
def Z60 : Tm := Ah [.Ad, .int .i64 (.ofNat 0), .int .i64 (.ofNat 0), .bool false] 0 .e
theorem Bg3 (a b c d : AV) (h : H) : An env 110 (fun t ei => Aj 1 [(0, .agg [a, b, c, d])] h t ei) = some (.slice h.next 0 1 4 true, h.new (.row (Ah [a, b, c, d] 0 Z60) 4 0 114 true)) := by kernel_rfl
theorem Bhi (x y : AV) (h : H) : Ao env .append [110, 110] [x, y] h = Db (some false) x y h 114 (Pf 114) := by kernel_rfl
theorem Bjj : (Pf 114).size = 4 := by kernel_rfl
theorem A50 {n : Nat} (hn : n ≤ 1099511627776) : Cl (Pf 114) n = true := Wo (by kernel_rfl) (by kernel_rfl) hn
theorem Bgh {q : P} {o n lo hi : Nat} {b : Bool} {h : H} (h1 : lo ≤ hi) (h2 : hi ≤ n) : slice3 env h 171 (.slice q o n 3 b) (some (some lo)) (some (some hi)) none = some (.slice q (o + lo * 3) (hi - lo) 3 (Ai b (Nat.beq hi n)), h) := by
 have e : slice3 env h 171 (.slice q o n 3 b) (some (some lo)) (some (some hi)) none = Fe h (Bool.rec none (some (.slice q (Nat.add o (Nat.mul lo 3)) (Nat.sub hi lo) 3 (Ai b (Nat.beq hi n)))) (Ai (Ai (Nat.ble lo hi) (Nat.ble hi n)) true)) := by kernel_rfl
 rw [e, Nat.ble_eq_true_of_le h1, Nat.ble_eq_true_of_le h2]; rfl
theorem Pj.cut {sz o lo hi : Nat} {t : Tm} {L : List (List AV)} (hr : Pj sz o t L) : Pj sz (o + lo * sz) t ((L.drop lo).take (hi - lo)) := by
 intro i hi'
 have h1 : lo + i < L.length := by rw [List.length_take, List.length_drop] at hi'; omega
 rw [List.getElem_take, List.getElem_drop]
 refine ⟨(hr (lo + i) h1).1, fun j hj => ?_⟩
 have := (hr (lo + i) h1).2 j hj
 rw [← this]
 congr 1
 rw [Nat.add_mul]; omega
theorem Rd.Bl5 {h : H} {v : AV} {L : List (List AV)} (hr : Rd 3 h v L) {lo hi : Nat} (h1 : lo ≤ hi) (h2 : hi ≤ L.length) {k : KV} (hk : ∀ v', Rd 3 h v' ((L.drop lo).take (hi - lo)) → k v' h) : oK (slice3 env h 171 v (some (some lo)) (some (some hi)) none) k := by
 obtain ⟨q, o, t, m, z, e, w, b, rfl, a1, a2, a3, a4⟩ := hr
 rw [Bgh h1 h2, Ae]
 have hl : ((L.drop lo).take (hi - lo)).length = hi - lo := by rw [List.length_take, List.length_drop]; omega
 exact hk _ ⟨q, _, t, m, z, e, w, _, by rw [hl], a1, a2, by rw [hl]; have : hi * 3 ≤ L.length * 3 := Nat.mul_le_mul_right _ h2; omega, a4.cut⟩
theorem Rs.cut {h : H} {v : AV} {B : List UInt8} (hr : Rs h v B) {lo hi : Nat} (h1 : lo ≤ hi) (h2 : hi ≤ B.length) {k : KV} (hk : ∀ v', Rs h v' ((B.drop lo).take (hi - lo)) → k v' h) : oK (slice3 env h 171 v (some (some lo)) (some (some hi)) none) k := by
 obtain ⟨L, r, hL⟩ := hr
 refine r.Bl5 h1 (by rw [hL.1]; exact h2) fun v' r' => hk v' ⟨_, r', ?_, fun i hi1 hi2 => ?_⟩
 · rw [List.length_take, List.length_take, List.length_drop, List.length_drop, hL.1]
 · have h3 : lo + i < B.length := by rw [List.length_take, List.length_drop] at hi1; omega
   have h4 : lo + i < L.length := by rw [hL.1]; exact h3
   obtain ⟨f, t, a, b, c⟩ := hL.2 (lo + i) h3 h4
   refine ⟨f, t, a, b, ?_⟩
   rw [List.getElem_take, List.getElem_take, List.getElem_drop, List.getElem_drop]; exact c
theorem Ac0 {v : AV} {A : Prop} (h : Pg 4 v v = true) (hA : A) : eqC v v A := by
 show Bool.rec Ak A (Pg 4 v v)
 rw [h]; exact hA
theorem avI {n : Nat} {k : IntKind} {a : Int} : Pg (n + 1) (.int k a) (.int k a) = true := by
 show Ai (Ai1 k k) (Az a a) = true
 rw [Fp, beq_self_eq_true]; cases k <;> rfl
theorem avS {n l c : Nat} : Pg (n + 1) (.str l c) (.str l c) = true := by
 show Ai (Nat.beq l l) (Nat.beq c c) = true
 rw [Nat.beq_refl, Nat.beq_refl]; rfl
theorem Bm5 {n : Nat} {a : P} {i m z : Nat} {t : Bool} : Pg (n + 1) (.slice a i m z t) (.slice a i m z t) = true := by
 show Ai (Ai (P.beq a a) (Nat.beq i i)) (Ai (Ai (Nat.beq m m) (Nat.beq z z)) (Ajz t t)) = true
 rw [P.beq_refl, Nat.beq_refl, Nat.beq_refl, Nat.beq_refl]; cases t <;> rfl
theorem A18 {e : TypeId} {sz lo : Nat} {h : H} {v : AV} {L : List (List AV)} (hb : Ct e sz lo h v L) : Pg 4 v v = true := by
 rcases hb with ⟨rfl, _⟩ | ⟨_, _, _, _, _, rfl, _⟩
 · rfl
 · exact Bm5
theorem Bm6 {x y z : AV} (hx : Pg 3 x x = true) (hy : Pg 3 y y = true) (hz : Pg 3 z z = true) : Pg 4 (.agg [x, y, z]) (.agg [x, y, z]) = true := by
 have e : Pg 4 (.agg [x, y, z]) (.agg [x, y, z]) = allEq (Pg 3) [x, y, z] [x, y, z] := rfl
 rw [e]
 simp only [allEq, hx, hy, hz]
 rfl
structure Tok where
 kind : Nat
 text : List UInt8
 space : Bool
 f : Nat
 t : Nat
def Tok.cells (x : Tok) : List AV := [.int .i64 (.ofNat x.kind), S x.text, .bool x.space, .str 1 102, .int .i64 (.ofNat x.f), .int .i64 (.ofNat x.t), .bool false, .Ad]
def LS (h2 h : H) (T : List Tok) : Prop := Exh h2 h ∧ h2.next.nat < h.next.nat ∧ ∃ t, h.at h2.next = .row t 4 0 114 true ∧ Ct 43 8 h2.next.nat h (Bd t 0) (T.map Tok.cells)
theorem A4n {h2 h : H} {vr : AV} {B : List UInt8} {T : List Tok} {i e kd l1 c1 n : Nat} {b : Bool} {k : KV} (hB : Rs h2 vr B) (hl : B.length ≤ 1000000) (hT : T.length ≤ 1000000) (hs : LS h2 h T) (hi : i < e) (he : e ≤ B.length)
 (hk : ∀ f t h', LS h2 h' (T ++ [⟨kd, (B.drop i).take (e - i), b, f, t⟩]) → (r46 W1 k n).a1 1 102 l1 c1 vr .Ad .Ad (.ptr h2.next 0) false (Int.ofNat e) h') :
 (r46 W1 k (n + 2)).a5 1 102 l1 c1 vr .Ad .Ad (.ptr h2.next 0) b (Int.ofNat i) (Int.ofNat kd) (Int.ofNat e) false h := by
 obtain ⟨x0, hn, t, ht, hb⟩ := hs
 have hr := hB.ext x0
 obtain ⟨L, r, hL⟩ := hr
 have i1 : i < L.length := by rw [hL.1]; omega
 have i2 : e - 1 < L.length := by rw [hL.1]; omega
 obtain ⟨f1, t1, _, _, hc1⟩ := hL.2 i (by omega) i1
 obtain ⟨f2, t2, _, _, hc2⟩ := hL.2 (e - 1) (by omega) i2
 refine Bd3 ?_
 unfold Ani
 rw [Ar]
 refine r.elem i1 fun q1 o1 hq1 _ a1 => ?_
 rw [hc1] at a1
 rw [Ba]
 refine a1.ld1 (j := 1) (by show 1 < 3; decide) ?_
 simp only [rn, List.getElem_cons_succ, List.getElem_cons_zero]
 rw [Au, Acw (by omega), Co (by omega), As, Ar]
 refine r.elem i2 fun q2 o2 hq2 _ a2 => ?_
 rw [hc2] at a2
 rw [Ba]
 refine a2.ld1 (j := 2) (by show 2 < 3; decide) ?_
 simp only [rn, List.getElem_cons_succ, List.getElem_cons_zero]
 rw [Au, Ben, Ae]
 refine El ?_
 have a1' := a1.frame (h' := h.new Atm) (Dh hq1)
 have a2' := a2.frame (h' := h.new Atm) (Dh hq2)
 refine a1'.ld1 (j := 1) (by show 1 < 3; decide) ?_
 simp only [rn, List.getElem_cons_succ, List.getElem_cons_zero]
 rw [Au]
 refine Ac0 avI ?_
 refine a2'.ld1 (j := 2) (by show 2 < 3; decide) ?_
 simp only [rn, List.getElem_cons_succ, List.getElem_cons_zero]
 rw [Au]
 refine Ac0 avI ?_
 have hs44 : (h.new Atm).at h.next = .row (Ah [(.str 0 0), (.int .i64 (Int.ofNat 0)), (.int .i64 (Int.ofNat 0))] 0 .e) 3 0 38 true := by rw [Ax]; rfl
 refine Tu (c := 3) hs44 (Nat.le_refl _) rfl (by decide) (by decide) ?_
 -- the heap from here on
 generalize hh3 : (h.new Atm).put h.next (.row (Ah [.str 1 102, .int .i64 (Int.ofNat f1), .int .i64 (Int.ofNat t2)] 0 (Ah [(.str 0 0), (.int .i64 (Int.ofNat 0)), (.int .i64 (Int.ofNat 0))] 0 .e)) 3 0 38 true) = h3
 have x3 : Exh h h3 := by
  subst hh3
  refine ⟨by rw [Df, Bf]; omega, fun c hc => ?_⟩
  rw [Bx (fun e => by subst e; exact absurd hc (Nat.lt_irrefl _)), Dh hc]
 have n3 : h3.next.nat = h.next.nat + 1 := by subst hh3; rw [Df, Bf]
 have s3 : AtP h3 h.next 0 [.str 1 102, .int .i64 (Int.ofNat f1), .int .i64 (Int.ofNat t2)] := by
  refine ⟨_, 3, 0, 38, true, by subst hh3; exact Bo _ _ _, by show 0 + 3 ≤ 3; decide, fun j hj => ?_⟩
  rw [Ap, if_pos (by constructor; omega; simpa using hj), List.getD_eq_getElem?_getD, show 0 + j - 0 = j by omega, List.getElem?_eq_getElem hj]; rfl
 have b3 := hb.ext x3
 have ht3 : h3.at h2.next = .row t 4 0 114 true := by rw [x3.2 _ hn]; exact ht
 rw [Ht]
 refine Da ht3 (by decide) ?_
 refine Rs.cut ((hB.ext x0).ext x3) (Nat.le_of_lt hi) he fun v4 r4 => ?_
 refine s3.ldn rfl ?_
 refine c81 (by rw [List.length_take, List.length_drop]; omega) r4 fun h5 x5 => ?_
 rw [Ch]
 have ht5 : h5.at h2.next = .row t 4 0 114 true := by rw [x5.2 _ (by omega)]; exact ht3
 have b5 := b3.ext x5
 refine Da ht5 (by decide) ?_
 refine Ac0 (A18 b5) ?_
 have s5 := s3.frame (h' := h5) (x5.2 _ (by omega))
 refine s5.ldn rfl ?_
 refine Ac0 (Bm6 avS avI avI) ?_
 rw [Bem, Ae, Bg5, Ae]
 have x6 : Exh h5 (h5.new (.row (Ah [.int .i64 (Int.ofNat kd), .str ((B.drop i).take (e - i)).length (enc ((B.drop i).take (e - i))), .bool b, .str 1 102, .int .i64 (Int.ofNat f1), .int .i64 (Int.ofNat t2), .bool false, .Ad] 0 Z47) 8 0 43 true)) := Exh.new
 have n5 : h.next.nat < h5.next.nat := by have := x5.1; omega
 refine Da (show _ = Ob.row t 4 0 114 true by rw [x6.2 _ (by omega)]; exact ht5) (by decide) ?_
 refine Ac0 (A18 b5) ?_
 rw [Bhj]
 refine Ag0 b5 rfl Bjl (A52 (by rw [List.length_map]; omega)) (by omega) fun v7 h7 b7 k7 => ?_
 have ht7 : h7.at h2.next = .row t 4 0 114 true := by rw [k7.2 _ (by omega) (.inr ⟨_, _, _, _, _, ht5, by decide⟩)]; exact ht5
 rw [Ht]
 refine Pp ht7 (Nat.zero_le _) (by decide) b7.one ?_
 refine Bp rfl ?_
 refine Bd5 ?_
 unfold Ank
 refine hk f1 t2 _ ⟨?_, ?_, _, Bo _ _ _, ?_⟩
 · have x7 : Exh h2 h7 := (x0.trans (x3.trans x5)).kp (Nat.le_refl _) k7
   refine ⟨x7.1, fun c hc => ?_⟩
   rw [Bx fun e' => by subst e'; exact absurd hc (Nat.lt_irrefl _)]
   exact x7.2 c hc
 · rw [Df]; have := k7.1; omega
 · rw [Ap, if_pos (by constructor <;> simp)]
   rw [List.map_append]
   show Ct 43 8 h2.next.nat _ v7 (T.map Tok.cells ++ [Tok.cells ⟨kd, (B.drop i).take (e - i), b, f1, t2⟩])
   refine Ct.frame b7 (Nat.le_refl _) fun c hc _ tt m z w ha => Bx fun e' => ?_
   subst e'
   rw [ht7] at ha; cases ha
end Go.Den
