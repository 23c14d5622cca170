/-
 Part of the proof.
-/
import Derived.Test.YtcnmehbkpaoolaaGreatDoorLaid
import Derived.KernelRfl
noncomputable section
set_option maxRecDepth 100000
namespace Go.Den
open Go.RowKit
theorem Amn {n : Nat} (h : n < 256) : wrap .u8 (Int.ofNat n) = Int.ofNat n := by
 rw [Ga]
 simp [IntKind.wrap, IntKind.bits, IntKind.signed]
 omega
def Bhn (v : Nat) (l : List UInt8) : Nat := l.foldl (fun v b => (v * 256 % 4294967296) ||| b.toNat) v
def cvI (l : List UInt8) : Int := if 1 < l.length then wrap .i64 (wrap .i32 (Int.ofNat (Bhn 0 l))) else wrap .i64 (wrap .i8 (Int.ofNat (l.headD 0).toNat))
def Vl (s : List UInt8) : Option (Int × Bool) := match Ki s with
 | none => none
 | some l => if (Be s).1 = [117, 56] ∨ ¬ (s.drop (Be s).1.length).head? = some 39 ∨ l = [] ∨ 8 < l.length then none else some (wrap .u64 (cvI l), decide ((Be s).1 = [117]) || decide ((Be s).1 = [85]))
def Avw (o : Option (Int × Bool)) : AV := match o with
 | some p => .tuple [.agg [.int .u64 p.1, .bool p.2], .bool true]
 | none => A1g
theorem gc2 (a b : AV) (t : Tm) : Cp (Ah [a, b] 0 t) 2 0 = [a, b] := by
 rw [Gx]
 have h0 : Bd (Ah [a, b] 0 t) 0 = a := by rw [Ap]; simp
 have h1 : Bd (Ah [a, b] 0 t) 1 = b := by rw [Ap]; simp
 show [Bd (Ah [a, b] 0 t) (0 + 0), Bd (Ah [a, b] 0 t) (0 + 1)] = _
 rw [h0, h1]
theorem Bg7 (n : Int) (b : Bool) (h : H) : Bv env (env.ty 55) [(0, (.int .u64 n)), (1, (.bool b))] h = some (.agg [.int .u64 n, .bool b], h) := by kernel_rfl
theorem Bes (s : List UInt8) : Bq s.length (enc s) 1 117 = decide (s = [117]) := Dc (t := [117])
theorem Blv (s : List UInt8) : Bq s.length (enc s) 1 85 = decide (s = [85]) := Dc (t := [85])
theorem Bls (s : List UInt8) : Bq s.length (enc s) 2 14453 = decide (s = [117, 56]) := Dc (t := [117, 56])
theorem A11 {p : P} {h : H} {t : Tm} {L : List UInt8} {n : Int} {m : Nat} {k : KV} (ha : h.at p = .row t 2 0 55 true) (hk : ∀ h', k (.tuple [.agg [.int .u64 (wrap .u64 n), .bool (decide (L = [117]) || decide (L = [85]))], .bool true]) h') : (r66 W1 k (m + 1)).a2 (.ptr p 0) L.length (enc L) n h := by
 refine Bdw ?_
 unfold Am3
 rw [As]
 refine Kg ?_
 rw [Bes, Blv, Bg7, Ae]
 refine Tu ha (Nat.le_refl _) rfl (by decide) (by decide) ?_
 refine Acs (Bo _ _ _) (by decide) ?_
 rw [gc2]
 exact hk _
theorem Bjp {v : Nat} {K : Int → Prop} : Apu .u32 (Int.ofNat v) (Int.ofNat 8) K = K (Int.ofNat (v * 256 % 4294967296)) := by
 show fI (wrap .u32 (Int.ofNat v * 2 ^ (min 8 (IntKind.bits .u32)))) K = _
 have e : wrap .u32 (Int.ofNat v * 2 ^ (min 8 (IntKind.bits .u32))) = Int.ofNat (v * 256 % 4294967296) := by
  rw [Ga]
  have : (2 : Int) ^ (min 8 (IntKind.bits .u32)) = 256 := by decide
  rw [this]
  show IntKind.wrap .u32 ((v : Int) * 256) = ((v * 256 % 4294967296 : Nat) : Int)
  simp [IntKind.wrap, IntKind.bits, IntKind.signed]
 rw [e, As]
theorem wrap32 {n : Nat} (h : n < 4294967296) : wrap .u32 (Int.ofNat n) = Int.ofNat n := by
 rw [Ga]
 simp [IntKind.wrap, IntKind.bits, IntKind.signed]
 omega
theorem Bdq {a b : Nat} {K : Int → Prop} (ha : a < 4294967296) (hb : b < 4294967296) : Ab2 Nat.lor .u32 (Int.ofNat a) (Int.ofNat b) K = K (Int.ofNat (a ||| b)) := by
 show (Bool.rec False (fN (Nat.lor a b) (fun n => K (.ofNat n))) (Ai (Nat.ble a (intMax .u32)) (Nat.ble b (intMax .u32))) : Prop) = _
 rw [Nat.ble_eq_true_of_le (show a ≤ intMax .u32 by show a ≤ 4294967295; omega), Nat.ble_eq_true_of_le (show b ≤ intMax .u32 by show b ≤ 4294967295; omega)]
 rfl
theorem A12 {p : P} {h : H} {t : Tm} {L l : List UInt8} {k : KV} {e : Nat} (ha : h.at p = .row t 2 0 55 true) (hl : l.length ≤ 1000) : ∀ (n i v : Nat), l.length - i + e + 1 ≤ n → i ≤ l.length → (∀ n', e ≤ n' → (r66 W1 k n').a2 (.ptr p 0) L.length (enc L) (wrap .i64 (wrap .i32 (Int.ofNat (Bhn v (l.drop i))))) h) →
    (r66 W1 k n).a1 (.ptr p 0) l.length (enc l) L.length (enc L) (Int.ofNat v) (Int.ofNat l.length) (Int.ofNat i) h
  | 0, _, _, hn, _, _ => absurd hn (by omega)
  | n + 1, i, v, hn, hi, hk => by
    refine Bdx ?_
    unfold Am4
    rw [ilt]
    refine Aw (fun e' => ?_) (fun e' => ?_)
    · have e' : i < l.length := of_decide_eq_true e'
      have hd : l.drop i = l[i] :: l.drop (i + 1) := List.drop_eq_getElem_cons e'
      have hx := (l[i]).toNat_lt
      rw [Bjp, Ar]
      refine Ck e' ?_
      rw [wrap32 (by omega), As, Bdq (Nat.mod_lt _ (by decide)) (by omega), Aaq (by omega), As]
      refine A12 (e := e) ha hl n (i + 1) _ (by omega) e' ?_
      intro n' hn'
      have := hk n' hn'
      rw [hd] at this
      exact this
    · have hd : l.drop i = [] := by
        have : ¬ i < l.length := of_decide_eq_false e'
        rw [List.drop_eq_nil_iff]; omega
      have := hk n (by omega)
      rw [hd] at this
      rw [As, As]
      exact this
theorem c66 (s : List UInt8) (hl : s.length ≤ 549755813888) : Pure PP G h0 66 [S s] (Avw (Vl s)) := by
 refine w66 (n := 1015) Bn (g66 ?_)
 unfold Am5
 refine El ?_
 have ha : (h0.new Aic).at h0.next = .row (Ah [.int .u64 (Int.ofNat 0), .bool false] 0 .e) 2 0 55 true := Ax _ _
 refine Dq (c59 s hl) ?_ rfl (by cases Ki s <;> rfl)
 have bad : ∀ {h : H}, h.at h0.next = .row (Ah [.int .u64 (Int.ofNat 0), .bool false] 0 .e) 2 0 55 true → Vl s = none → (oK (Bv env (env.ty 55) [] h) fun v30 h31 =>
  stn 2 (.ptr h0.next 0) v30 h31 fun h32 =>
  ldn 2 (.ptr h0.next 0) h32 fun v33 =>
  (fun v (_ : H) => v = Avw (Vl s) : KV) (.tuple [v33, (.bool false)]) h32) := by
  intro h ha e
  rw [b25, Ae]
  refine Tu ha (Nat.le_refl _) rfl (by decide) (by decide) ?_
  refine Acs (Bo _ _ _) (by decide) ?_
  rw [gc2]
  show AV.tuple _ = _
  rw [e]; rfl
 cases hb : Ki s with
 | none =>
  rw [show Aqy none = .tuple [S [], .bool false] from rfl, Eo, Ch, Ew, Ce]
  refine Dq (c60 s) ?_
  rw [Eo, Ch, Ew, Ce]
  refine Wd (fun e => by cases e) (fun _ => ?_)
  refine Wd (fun e => by cases e) (fun _ => ?_)
  refine Wd (fun e => by cases e) (fun _ => ?_)
  refine Wd (fun e => by cases e) (fun _ => ?_)
  refine Cg rfl ?_
  exact bad ha (by unfold Vl; rw [hb])
 | some l =>
  have hlet : (Be s).2 = true := by
   unfold Ki at hb
   by_cases h : (Be s).2 = true
   · exact h
   · rw [if_neg h] at hb; cases hb
  have hq : Nl (s.drop (Be s).1.length) = true := (Qf s Ot hlet).2
  have hlt : (Be s).1.length < s.length := by
   have hle := Xf s
   rcases Nat.lt_or_ge (Be s).1.length s.length with h | h
   · exact h
   · have : s.drop (Be s).1.length = [] := by rw [List.drop_eq_nil_iff]; exact h
     rw [this] at hq; cases hq
  have hhead : (s.drop (Be s).1.length).head? = some (s[(Be s).1.length]) := by rw [List.drop_eq_getElem_cons hlt]; rfl
  have ec : Vl s = if (Be s).1 = [117, 56] ∨ ¬ some (s[(Be s).1.length]) = some 39 ∨ l = [] ∨ 8 < l.length then none else some (wrap .u64 (cvI l), decide ((Be s).1 = [117]) || decide ((Be s).1 = [85])) := by
   unfold Vl; rw [hb, hhead]
  rw [show Aqy (some l) = .tuple [S l, .bool true] from rfl, Eo, Ch, Ew, Ce]
  refine Dq (c60 s) ?_
  rw [Eo, Ch, Ew, Ce]
  refine Kg ?_
  rw [Bls]
  refine Wd (fun e => ?_) (fun e => ?_)
  · refine Ck hlt ?_
    rw [toNat_eq _ 39 (by decide), Bw]
    refine Kg ?_
    rw [Gk]
    refine Kg ?_
    rw [ilt]
    have e1 : ¬ (Be s).1 = [117, 56] := by simpa using e
    refine Aw (fun e2 => ?_) (fun e2 => ?_)
    · refine bad ha ?_
      rw [ec]
      refine if_pos ?_
      simp only [Bool.or_eq_true, Bool.not_eq_true', decide_eq_true_eq, decide_eq_false_iff_not] at e2
      rcases e2 with (e2 | e2) | e2
      · exact .inr (.inl fun h => e2 (Option.some.inj h))
      · exact .inr (.inr (.inl e2))
      · exact .inr (.inr (.inr e2))
    · simp only [Bool.or_eq_false_iff, Bool.not_eq_false', decide_eq_false_iff_not, decide_eq_true_eq] at e2
      obtain ⟨⟨e2, e3⟩, e4⟩ := e2
      have ec : Vl s = some (wrap .u64 (cvI l), decide ((Be s).1 = [117]) || decide ((Be s).1 = [85])) := by
       rw [ec, if_neg]
       rintro (h | h | h | h)
       · exact e1 h
       · exact h (congrArg some e2)
       · exact e3 h
       · exact e4 h
      have hpos : 0 < l.length := by
       cases l with
       | nil => exact absurd rfl e3
       | cons _ _ => simp
      refine Ck hpos ?_
      rw [As, As, ilt]
      refine Aw (fun e5 => ?_) (fun e5 => ?_)
      · have e5 : 1 < l.length := of_decide_eq_true e5
        refine A12 (e := 1) ha (by omega) 1014 0 0 (by omega) (Nat.zero_le _) ?_
        intro n' hn'
        obtain ⟨n', rfl⟩ : ∃ m, n' = m + 1 := ⟨n' - 1, by omega⟩
        refine A11 ha fun h' => ?_
        show AV.tuple _ = _
        rw [ec]
        show AV.tuple _ = AV.tuple _
        unfold cvI
        rw [if_pos e5, List.drop_zero]
      · have e5 : ¬ 1 < l.length := of_decide_eq_false e5
        refine A11 ha fun h' => ?_
        show AV.tuple _ = _
        rw [ec]
        show AV.tuple _ = AV.tuple _
        unfold cvI
        rw [if_neg e5]
        have : l.headD 0 = l[0] := by
         cases l with
         | nil => exact absurd rfl e3
         | cons _ _ => rfl
        rw [this]
  · refine Wd (fun e => by cases e) (fun _ => ?_)
    refine Wd (fun e => by cases e) (fun _ => ?_)
    refine Cg rfl ?_
    refine bad ha ?_
    rw [ec]
    exact if_pos (.inl (by simpa using e))
def Iq (c : UInt8) : Nat := if c.toNat ≤ 57 then c.toNat - 48 else if c.toNat ≤ 70 then c.toNat - 55 else c.toNat - 87
def Pn (B v : Nat) (l : List UInt8) : Nat := l.foldl (fun v c => v * B + Iq c) v
theorem Adh {B : Nat} (hB : 1 ≤ B) : ∀ (l : List UInt8) (v : Nat), v ≤ Pn B v l
 | [], _ => Nat.le_refl _
 | c :: l, v => Nat.le_trans (Nat.le_trans (Nat.le_mul_of_pos_right v hB) (Nat.le_add_right _ _)) (Adh hB l (v * B + Iq c))
theorem Bg9 {x : UInt8} {K : Int → Prop} : asI .u8 (ub x) K = K (Int.ofNat x.toNat) := rfl
theorem Amo (n : Nat) : wrap .u64 (Int.ofNat n) = Int.ofNat (n % 18446744073709551616) := by
 rw [Ga]
 simp [IntKind.wrap, IntKind.bits, IntKind.signed]
theorem Adg {n : Nat} (h : n < 18446744073709551616) : wrap .u64 (Int.ofNat n) = Int.ofNat n := by rw [Amo, Nat.mod_eq_of_lt h]
theorem A83 (x : UInt8) : Pure PP G h0 221 [.int .u8 (Int.ofNat x.toNat)] (.int .u8 (Int.ofNat (x.toNat ||| 32))) := by
 refine A96 (n := 1) Bn (Bkj ?_)
 unfold Ady
 show (Bool.rec False (fN (Nat.lor x.toNat 32) (fun n => _)) (Ai (Nat.ble x.toNat (intMax .u8)) (Nat.ble 32 (intMax .u8))) : Prop)
 rw [Nat.ble_eq_true_of_le (show x.toNat ≤ intMax .u8 by have := x.toNat_lt; show x.toNat ≤ 255; omega)]
 show fN (Nat.lor x.toNat 32) _
 rw [Bei]; rfl
theorem Azw : ∀ x ∈ Gj, 57 < x.toNat → 97 ≤ (x.toNat ||| 32) ∧ (x.toNat ||| 32) ≤ 122 ∧ Iq x = (x.toNat ||| 32) - 87 ∧ 48 ≤ x.toNat := by decide
theorem A5s : ∀ x ∈ Gj, 48 ≤ x.toNat ∧ x.toNat ≠ 95 ∧ Iq x < 16 := by decide
def puV (v : Nat) : AV := if v < 18446744073709551616 then .tuple [.int .u64 (Int.ofNat v), .Hl] else .tuple [.int .u64 (Int.ofNat 18446744073709551615), .iface 304 (.int .i64 (Int.ofNat 1))]
abbrev M64 : Nat := 18446744073709551615
def Frame (h h' : H) : Prop := h.next.nat ≤ h'.next.nat ∧ ∀ c, c.nat < h.next.nat → h'.at c = h.at c
theorem Ayu {h : H} {q : P} {t : Tm} {m z n : Nat} {e : TypeId} {w ti : Bool} {l : List UInt8} (ha : h.at q = .row t m z e w) (hm : l.length ≤ m) (hc : Dy t l) {i : Nat} (hi : i < l.length) (hn : n = l.length) {K : AV → Prop} (hk : K (ub l[i])) : Ca 1 i (.slice q 0 n 1 ti) fun v' => ld1 v' h K := by
 subst hn
 show (Bool.rec Ak (fN (Nat.add 0 (Nat.mul i 1)) (fun q' => ld1 (.ptr q q') h K)) (Ai (Nat.ble (Nat.add i 1) l.length) (Nat.beq 1 1)) : Prop)
 rw [Nat.ble_eq_true_of_le (show Nat.add i 1 ≤ l.length from hi)]
 have e1 : Nat.add 0 (Nat.mul i 1) = i := by show 0 + i * 1 = i; omega
 rw [e1]
 show ld1 (.ptr q i) h K
 refine Da ha (by omega) ?_
 rw [hc i hi]; exact hk
section
variable {B : Nat} {s s0 set : List UInt8} {q : P} {t : Tm} {h : H} {k : KV}
theorem Awc (hB : 2 ≤ B ∧ B ≤ 16) (hset : ∀ x ∈ s, x ∈ Gj ∧ Iq x < B) (hl : s.length ≤ 1099511627776) (ha : h.at q = .row t s.length 0 TB false) (hc : Dy t s) : ∀ (n i v : Nat), 2 * (s.length - i) + 1 ≤ n → i ≤ s.length → v ≤ M64 → k (puV (Pn B v (s.drop i))) h →
    (Pc W1 k n).a1 (Int.ofNat B) false s0.length (enc s0) (Int.ofNat (M64 / B + 1)) (Int.ofNat M64) false (Int.ofNat v) (.slice q 0 s.length 1 false) (Int.ofNat s.length) (Int.ofNat i) h
  | 0, _, _, hn, _, _, _ => absurd hn (by omega)
  | n + 1, i, v, hn, hi, hv, hk => by
    refine A44 ?_
    unfold Aeb
    rw [ilt]
    by_cases e : i < s.length
    · refine Cg (decide_eq_true e) ?_
      have hd : s.drop i = s[i] :: s.drop (i + 1) := List.drop_eq_getElem_cons e
      obtain ⟨hx, hdg⟩ := hset _ (List.getElem_mem e)
      obtain ⟨h48, h95, h16⟩ := A5s _ hx
      have h256 := (s[i]).toNat_lt
      have step : ∀ (h2 : h = h), (Pc W1 k n).a2 (Int.ofNat B) false s0.length (enc s0) (Int.ofNat (M64 / B + 1)) (Int.ofNat M64) false (Int.ofNat v) (Int.ofNat (Iq s[i])) (.slice q 0 s.length 1 false) (Int.ofNat s.length) (Int.ofNat i) h := by
        intro _
        obtain ⟨n, rfl⟩ : ∃ n', n = n' + 1 := ⟨n - 1, by omega⟩
        refine A43 ?_
        unfold Aea
        rw [Amn (show B < 256 by omega), As, ile]
        refine Bp (decide_eq_false (by omega)) ?_
        rw [ile]
        have hq := Nat.div_add_mod M64 B
        have hqm := Nat.mod_lt M64 (show 0 < B by omega)
        refine Aw (fun e1 => ?_) (fun e1 => ?_)
        · have e1 : M64 / B + 1 ≤ v := of_decide_eq_true e1
          have h1 : M64 < v * B := by
            have : (M64 / B + 1) * B ≤ v * B := Nat.mul_le_mul_right B e1
            rw [Nat.add_mul, Nat.one_mul] at this
            rw [Nat.mul_comm] at hq
            omega
          rw [hd] at hk
          have h2 : v * B + Iq s[i] ≤ Pn B v (s[i] :: s.drop (i + 1)) := Adh (by omega) _ _
          unfold puV at hk
          rw [if_neg (by show ¬ _ < M64 + 1; omega)] at hk
          exact hk
        · have e1 : ¬ M64 / B + 1 ≤ v := of_decide_eq_false e1
          have h1 : v * B ≤ M64 := by
            have : v * B ≤ M64 / B * B := Nat.mul_le_mul_right B (by omega)
            rw [Nat.mul_comm] at hq
            omega
          have hB64 : B < 18446744073709551616 := by omega
          rw [Adg hB64, As, show Int.ofNat v * Int.ofNat B = Int.ofNat (v * B) from rfl, Adg (show v * B < M64 + 1 by omega), As, Adg (show Iq s[i] < M64 + 1 by show _ < 18446744073709551616; omega), As, Dl, Amo, As, ilt]
          refine Kg ?_
          rw [ilt]
          refine Aw (fun e2 => ?_) (fun e2 => ?_)
          · have h3 : M64 < v * B + Iq s[i] := by
              simp only [Bool.or_eq_true, decide_eq_true_eq] at e2
              rcases e2 with e2 | e2
              · rcases Nat.lt_or_ge M64 (v * B + Iq s[i]) with h | h
                · exact h
                · rw [Nat.mod_eq_of_lt (show _ < M64 + 1 by omega)] at e2; omega
              · have := Nat.mod_lt (v * B + Iq s[i]) (show 0 < 18446744073709551616 by decide)
                have e2 : M64 < (v * B + Iq s[i]) % 18446744073709551616 := e2
                have : (v * B + Iq s[i]) % 18446744073709551616 < M64 + 1 := this
                omega
            rw [hd] at hk
            have h2 : v * B + Iq s[i] ≤ Pn B v (s[i] :: s.drop (i + 1)) := Adh (by omega) _ _
            unfold puV at hk
            rw [if_neg (by show ¬ _ < M64 + 1; omega)] at hk
            exact hk
          · have h3 : v * B + Iq s[i] ≤ M64 := by
              simp only [Bool.or_eq_false_iff, decide_eq_false_iff_not] at e2
              rcases Nat.lt_or_ge M64 (v * B + Iq s[i]) with h | h
              · exfalso
                have e3 : (v * B + Iq s[i]) % 18446744073709551616 = v * B + Iq s[i] - 18446744073709551616 := by
                  rw [Nat.mod_eq_sub_mod (show 18446744073709551616 ≤ v * B + Iq s[i] from h), Nat.mod_eq_of_lt (by have : v * B ≤ 18446744073709551615 := h1; omega)]
                rw [e3] at e2
                have : v * B ≤ 18446744073709551615 := h1
                omega
              · exact h
            rw [Aaq (by omega), As, Nat.mod_eq_of_lt (show _ < M64 + 1 by omega)]
            refine Awc hB hset hl ha hc n (i + 1) _ (by omega) e h3 ?_
            rw [hd] at hk
            exact hk
      rw [Ar]
      refine Ayu ha (Nat.le_refl _) hc e rfl ?_
      rw [Bg9]
      refine So ?_
      refine Bp (by rw [Bool.and_false]) ?_
      refine So ?_
      rw [ile, ile]
      by_cases e1 : (s[i]).toNat ≤ 57
      · refine Cg (by rw [decide_eq_true h48, decide_eq_true e1]; rfl) ?_
        rw [Acw h48, Amn (by omega), As]
        have : (s[i]).toNat - 48 = Iq s[i] := by unfold Iq; rw [if_pos e1]
        rw [this]
        exact step rfl
      · refine Bp (by rw [decide_eq_false e1, Bool.and_false]) ?_
        obtain ⟨g1, g2, g3, _⟩ := Azw _ hx (by omega)
        refine Dq (A83 s[i]) ?_
        rw [Au, ile]
        refine Li (b := true) (fun k' hk' => ?_) ?_
        · refine Dq (A83 s[i]) ?_
          rw [Au, ile, decide_eq_true g2]; exact hk'
        refine Cg (by rw [decide_eq_true g1]; rfl) ?_
        refine Dq (A83 s[i]) ?_
        rw [Au, Acw g1, Amn (by omega), As, Dl, Amn (by omega), As]
        rw [show ((s[i]).toNat ||| 32) - 97 + 10 = Iq s[i] by rw [g3]; omega]
        exact step rfl
    · refine Bp (decide_eq_false e) ?_
      have hd : s.drop i = [] := by rw [List.drop_eq_nil_iff]; omega
      rw [hd] at hk
      have hk : k (puV v) h := hk
      unfold puV at hk
      rw [if_pos (show v < M64 + 1 by omega)] at hk
      refine Gu (fun e => by cases e) (fun _ => ?_)
      exact Bp rfl hk
end
theorem cv9 (l c : Nat) (h : H) : Fz env h 9 115 (.str l c) = some (.slice h.next 0 l 1 false, h.new (.row (Ah (byteCells l c) 0 .e) l 0 TB false)) := by kernel_rfl
theorem Ac7 : ∀ l : List UInt8, byteCells l.length (enc l) = ubs l
 | [] => rfl
 | x :: l => by
  obtain ⟨h1, h2⟩ := Rk x l
  show (.int .u8 (.ofNat (Nat.mod (enc (x :: l)) 256)) :: byteCells l.length (Nat.div (enc (x :: l)) 256) : List AV) = _
  rw [h1, h2, Ac7 l]; rfl
theorem Bce {K : Int → Prop} : Apu .u64 (Int.ofNat 1) (Int.ofNat 64) K = K (Int.ofNat 0) := by
 have e : wrap .u64 (Int.ofNat 1 * 2 ^ (min 64 (IntKind.bits .u64))) = Int.ofNat 0 := by kernel_rfl
 show fI (wrap .u64 (Int.ofNat 1 * 2 ^ (min 64 (IntKind.bits .u64)))) K = _
 rw [e, As]
theorem Bci {K : Int → Prop} : Ay1 .u64 (Int.ofNat 18446744073709551615) (Int.ofNat 8) K = K (Int.ofNat (M64 / 8)) := by
 have e : wrap .u64 ((Int.ofNat 18446744073709551615).tdiv (Int.ofNat 8)) = Int.ofNat (M64 / 8) := by kernel_rfl
 show fI (wrap .u64 ((Int.ofNat 18446744073709551615).tdiv (Int.ofNat 8))) K = _
 rw [e, As]
theorem Bmq {B : Nat} {s : List UInt8} {h : H} {k : KV} (hB : B = 8 ∨ B = 10 ∨ B = 16) (hne : s ≠ []) (hset : ∀ x ∈ s, x ∈ Gj ∧ Iq x < B) (hl : s.length ≤ 1099511627776) (hk : ∀ h', Frame h h' → k (puV (Pn B 0 s)) h') : W1 (.func 173) [S s, .int .i64 (Int.ofNat B), .int .i64 (Int.ofNat 64)] h k := by
 refine Bad (n := 2 * s.length + 20) Bn (Bkq ?_)
 unfold Aec
 have e0 : Bq s.length (enc s) 0 0 = false := by rw [Gk]; exact decide_eq_false hne
 refine Bp e0 ?_
 refine So ?_
 have hB2 : 2 ≤ B ∧ B ≤ 16 := by omega
 refine Cg (by rw [ile, ile, decide_eq_true (show 2 ≤ B by omega), decide_eq_true (show B ≤ 36 by omega)]; rfl) ?_
 rw [Ko, decide_eq_false (show ¬ B = 0 by omega)]
 refine A40 ?_
 unfold Ad7
 refine Bp rfl ?_
 refine Kg ?_
 refine Bp rfl ?_
 refine A41 ?_
 unfold Ad8
 have main : ∀ n, 2 * s.length + 2 ≤ n → (Pc W1 k n).a3 s.length (enc s) (Int.ofNat B) (Int.ofNat 64) false s.length (enc s) (Int.ofNat (M64 / B + 1)) h := by
  intro n hn
  obtain ⟨n, rfl⟩ : ∃ n', n = n' + 1 := ⟨n - 1, by omega⟩
  refine A42 ?_
  unfold Ad9
  rw [show wrap .u64 (Int.ofNat 64) = Int.ofNat 64 by kernel_rfl, As]
  rw [Bce, show wrap .u64 (Jp (Int.ofNat 0) (Int.ofNat 1)) = Int.ofNat M64 by kernel_rfl, As, cv9, Ae, Ji, Ac7]
  refine Awc hB2 hset hl (Ax _ _) (Dy.new s .e) n 0 0 (by omega) (Nat.zero_le _) (Nat.zero_le _) ?_
  rw [List.drop_zero]
  exact hk _ ⟨by rw [Bf]; omega, fun c hc => Dh hc⟩
 rcases hB with rfl | rfl | rfl
 · refine Bp rfl ?_
   refine Bp rfl ?_
   rw [show wrap .u64 (Int.ofNat 8) = Int.ofNat 8 by kernel_rfl, As]
   rw [Bci, show wrap .u64 (Br (Int.ofNat (M64 / 8)) (Int.ofNat 1)) = Int.ofNat (M64 / 8 + 1) by kernel_rfl, As]
   exact main _ (by omega)
 · refine Cg rfl ?_
   exact main _ (by omega)
 · refine Bp rfl ?_
   refine Cg rfl ?_
   exact main _ (by omega)
theorem Atv (t : TypeId) (v : AV) : Ok env .neq 151 (.iface t v) .Hl = some (.bool true) := by kernel_rfl
theorem Atu : Ok env .neq 151 .Hl .Hl = some (.bool false) := by kernel_rfl
theorem Bm0 {B : Nat} {s : List UInt8} {h : H} {k : KV} (he : Jz h) (hB : B = 8 ∨ B = 10 ∨ B = 16) (hne : s ≠ []) (hset : ∀ x ∈ s, x ∈ Gj ∧ Iq x < B) (hl : s.length ≤ 1099511627776)
 (hk1 : Pn B 0 s < 18446744073709551616 → ∀ h', Frame h h' → k (.tuple [.int .u64 (Int.ofNat (Pn B 0 s)), .Hl]) h') (hk2 : ¬ Pn B 0 s < 18446744073709551616 → ∀ h' p, Frame h h' → k (.tuple [.int .u64 (Int.ofNat 18446744073709551615), .iface 306 (.ptr p 0)]) h') : W1 (.func 117) [S s, .int .i64 (Int.ofNat B), .int .i64 (Int.ofNat 64)] h k := by
 refine Ba0 (n := 1) Bn (Ble ?_)
 unfold Afb
 refine Bmq hB hne hset hl fun h' hf => ?_
 unfold puV
 by_cases e : Pn B 0 s < 18446744073709551616
 · rw [if_pos e, Eo, Au, Ew, Atu, Kn, Ce]
   refine Bp rfl ?_
   exact hk1 e h' hf
 · rw [if_neg e, Eo, Au, Ew, Atv, Kn, Ce]
   refine Cg rfl ?_
   refine Bmp (fn := [80, 97, 114, 115, 101, 85, 105, 110, 116]) ?_
   refine Bmk (he.keep hf.1 hf.2) hl fun h2 p hn2 hf2 => ⟨p, rfl, ?_⟩
   exact hk2 e h2 p ⟨Nat.le_trans hf.1 hn2, fun c hc => by rw [hf2 c (Nat.lt_of_lt_of_le hc hf.1), hf.2 c hc]⟩
end Go.Den
namespace Go.Den
open Go.RowKit
def Vx (r : List UInt8) : Bool := decide (r = []) || decide (r = [108]) || decide (r = [76]) || decide (r = [108, 108]) || decide (r = [76, 76])
def Aam (c : UInt8) : Bool := decide (c = 117) || decide (c = 85)
def Aak (s : List UInt8) : Bool := match s.getLast? with
 | some c => Aam c
 | none => false
def Yy (s : List UInt8) : Bool × Bool := match s with
 | [] => (false, true)
 | c :: t => if Aam c then (true, Vx t) else if Aak (c :: t) then (true, Vx (c :: t).dropLast) else (false, Vx (c :: t))
theorem Blt (s : List UInt8) : Bq s.length (enc s) 2 27756 = decide (s = [108, 108]) := Dc (t := [108, 108])
theorem Blu (s : List UInt8) : Bq s.length (enc s) 2 19532 = decide (s = [76, 76]) := Dc (t := [76, 76])
theorem Agv {r : List UInt8} {u : Bool} {h : H} {k : KV} {n : Nat} (hk : k (.tuple [.bool u, .bool (Vx r)]) h) : (Ah6 W1 k (n + 1)).a1 r.length (enc r) u h := by
 refine A5h ?_
 unfold Afe
 refine Kg ?_
 refine Kg ?_
 refine Kg ?_
 refine Kg ?_
 rw [Gk, A1v, Ber, Blt, Blu]
 exact hk
theorem Bm1 (s : List UInt8) (hl : s.length ≤ 1099511627776) : Pure PP G h0 113 [S s] (.tuple [.bool (Yy s).1, .bool (Yy s).2]) := by
 refine Ba4 (n := 2) Bn (Bli ?_)
 unfold Aff
 cases s with
 | nil =>
  refine Cg rfl ?_
  exact Agv (r := []) rfl
 | cons c t =>
  refine Bp (Ky c t) ?_
  refine Ck (s := c :: t) (Nat.zero_lt_succ _) ?_
  refine Ma (b := decide (c = 85)) (fun k' hk' => ?_) ?_
  · refine Ck (s := c :: t) (Nat.zero_lt_succ _) ?_
    rw [List.getElem_cons_zero, toNat_eq _ 85 (by decide)]; exact hk'
  rw [List.getElem_cons_zero, toNat_eq _ 117 (by decide)]
  refine Aw (fun e => ?_) (fun e => ?_)
  · have e : Aam c = true := e
    refine Fv (s := c :: t) (Nat.le_add_left 1 _) ?_
    refine Agv (r := t) ?_
    show AV.tuple _ = AV.tuple _
    have : Yy (c :: t) = (true, Vx t) := if_pos e
    rw [this]
  · have e : ¬ Aam c = true := fun h => by rw [show Aam c = false from e] at h; cases h
    have h1 : 1 ≤ (c :: t).length := Nat.le_add_left 1 _
    have h2 : (c :: t).length - 1 < (c :: t).length := by omega
    have hlast : (c :: t).getLast? = some ((c :: t)[(c :: t).length - 1]) := by rw [List.getLast?_eq_getElem?, List.getElem?_eq_getElem h2]
    have hlu : Aak (c :: t) = Aam ((c :: t)[(c :: t).length - 1]) := by unfold Aak; rw [hlast]
    rw [A1p h1 (by omega), As, Ar]
    refine Ck h2 ?_
    refine Ma (b := decide ((c :: t)[(c :: t).length - 1] = 85)) (fun k' hk' => ?_) ?_
    · rw [As, Ar]
      refine Ck h2 ?_
      rw [toNat_eq _ 85 (by decide)]; exact hk'
    rw [toNat_eq _ 117 (by decide)]
    refine Aw (fun e2 => ?_) (fun e2 => ?_)
    · have e2 : Aam ((c :: t)[(c :: t).length - 1]) = true := e2
      rw [As, Ar]
      refine Alr (by omega) ?_
      refine Agv ?_
      show AV.tuple _ = AV.tuple _
      have : Yy (c :: t) = (true, Vx (c :: t).dropLast) := by
       show (if Aam c then (true, Vx t) else if Aak (c :: t) then (true, Vx (c :: t).dropLast) else (false, Vx (c :: t))) = _
       rw [if_neg e, hlu, if_pos e2]
      rw [this, List.dropLast_eq_take]
    · have e2 : ¬ Aam ((c :: t)[(c :: t).length - 1]) = true := fun h => by rw [show Aam ((c :: t)[(c :: t).length - 1]) = false from e2] at h; cases h
      refine Agv ?_
      show AV.tuple _ = AV.tuple _
      have : Yy (c :: t) = (false, Vx (c :: t)) := by
       show (if Aam c then (true, Vx t) else if Aak (c :: t) then (true, Vx (c :: t).dropLast) else (false, Vx (c :: t))) = _
       rw [if_neg e, hlu, if_neg e2]
      rw [this]
def Ap3 (u ok : Bool) (B : Nat) (set dd : List UInt8) : Option (Nat × Bool) :=
 if (!ok || decide (dd = []) || !decide (Cn dd set = dd.length)) = true then none else if Pn B 0 dd < 18446744073709551616 then some (Pn B 0 dd, u || decide (9223372036854775807 < Pn B 0 dd)) else none
def Ap2 (s : List UInt8) : Option (Nat × Bool) :=
 if Nw (Gi s Mg) = true then Ap3 (Yy (s.drop (Gi s Mg).length)).1 (Yy (s.drop (Gi s Mg).length)).2 16 Gj ((Gi s Mg).drop 2)
 else if (Gi s Mg).take 1 = [48] then Ap3 (Yy (s.drop (Gi s Mg).length)).1 (Yy (s.drop (Gi s Mg).length)).2 8 Aab (Gi s Mg)
 else Ap3 (Yy (s.drop (Gi s Mg).length)).1 (Yy (s.drop (Gi s Mg).length)).2 10 Ir (Gi s Mg)
def Afy (o : Option (Nat × Bool)) : AV := match o with
 | some p => .tuple [.agg [.int .u64 (Int.ofNat p.1), .bool p.2], .bool true]
 | none => A1g
theorem Al1 {p : P} {h : H} {t : Tm} {u ok : Bool} {B n : Nat} {set dd : List UInt8} {k : KV} (he : Jz h) (ha : h.at p = .row t 2 0 55 true) (hp : p.nat < h.next.nat) (hs : Ug set) (h2 : 2 ≤ set.length) (hset : ∀ x ∈ set, x ∈ Gj ∧ Iq x < B) (hB : B = 8 ∨ B = 10 ∨ B = 16) (hl : dd.length ≤ 1099511627776)
 (hk : ∀ h', k (Afy (Ap3 u ok B set dd)) h') : (r64 W1 k (n + 1)).a1 (.ptr p 0) dd.length (enc dd) u ok (Int.ofNat B) set.length (enc set) h := by
 refine Bd0 ?_
 unfold Am9
 have bad : Ap3 u ok B set dd = none → ∀ h : H, h.at p = .row t 2 0 55 true → (oK (Bv env (env.ty 55) [] h) fun v32 h33 =>
  stn 2 (.ptr p 0) v32 h33 fun h34 =>
  ldn 2 (.ptr p 0) h34 fun v35 =>
  k (.tuple [v35, (.bool false)]) h34) := by
  intro e h ha
  rw [b25, Ae]
  refine Tu ha (Nat.le_refl _) rfl (by decide) (by decide) ?_
  refine Acs (Bo _ _ _) (by decide) ?_
  rw [gc2]
  have := hk (h.put p (.row (Ah [.int .u64 (Int.ofNat 0), .bool false] 0 t) 2 0 55 true))
  rw [e] at this
  exact this
 refine Kg ?_
 rw [Gk, Bw]
 refine Ma (b := !decide (Cn dd set = dd.length)) (fun k' hk' => ?_) ?_
 · refine Dq (Aqx hs h2 dd (by omega)) ?_
   rw [Au, Ko, Bw]; exact hk'
 refine Aw (fun e => ?_) (fun e => ?_)
 · exact bad (if_pos e) h ha
 · have en : Ap3 u ok B set dd = if Pn B 0 dd < 18446744073709551616 then some (Pn B 0 dd, u || decide (9223372036854775807 < Pn B 0 dd)) else none := if_neg (by rw [e]; simp)
   simp only [Bool.or_eq_false_iff, Bool.not_eq_false', decide_eq_true_eq, decide_eq_false_iff_not] at e
   obtain ⟨⟨_, e1⟩, e2⟩ := e
   have hall : ∀ x ∈ dd, x ∈ Gj ∧ Iq x < B := fun x hx => hset x (Afo (s := dd) (set := set) (n := dd.length) (by omega) (by rw [List.take_length]; exact hx))
   refine Bm0 he hB e1 hall hl (fun hv h' hf => ?_) (fun hv h' q hf => ?_)
   · rw [if_pos hv] at en
     have ha' : h'.at p = .row t 2 0 55 true := by rw [hf.2 p hp]; exact ha
     rw [Eo, Au, Ew, Atu, Kn, Ce]
     refine Bp rfl ?_
     refine Kg ?_
     rw [ilt, Bg7, Ae]
     refine Tu ha' (Nat.le_refl _) rfl (by decide) (by decide) ?_
     refine Acs (Bo _ _ _) (by decide) ?_
     rw [gc2]
     have := hk (h'.put p (.row (Ah [.int .u64 (Int.ofNat (Pn B 0 dd)), .bool (u || decide (9223372036854775807 < Pn B 0 dd))] 0 t) 2 0 55 true))
     rw [en] at this
     exact this
   · rw [if_neg hv] at en
     have ha' : h'.at p = .row t 2 0 55 true := by rw [hf.2 p hp]; exact ha
     rw [Eo, Au, Ew, Atv, Kn, Ce]
     refine Cg rfl ?_
     exact bad en h' ha'
theorem Ar2 (s set : List UInt8) : (Gi s set).length ≤ s.length := by
 unfold Gi
 rw [List.length_reverse]
 have := (List.dropWhile_sublist (l := s.reverse) (· ∈ set)).length_le
 rw [List.length_reverse] at this; exact this
theorem Ayj : ∀ x ∈ Gj, x ∈ Gj ∧ Iq x < 16 := by decide
theorem Ayi : ∀ x ∈ Aab, x ∈ Gj ∧ Iq x < 8 := by decide
theorem Ayk : ∀ x ∈ Ir, x ∈ Gj ∧ Iq x < 10 := by decide
theorem c64 (s : List UInt8) (hl : s.length ≤ 1099511627776) : Pure PP G h1 64 [S s] (Afy (Ap2 s)) := by
 refine w64 (n := 2) Bn (g64 ?_)
 unfold Ana
 refine El ?_
 have he : Jz (h1.new Aic) := Azy.new
 have ha : (h1.new Aic).at h1.next = .row (Ah [.int .u64 (Int.ofNat 0), .bool false] 0 .e) 2 0 55 true := Ax _ _
 have hp : h1.next.nat < (h1.new Aic).next.nat := by rw [Bf]; omega
 refine Dq (Bm2 A3d (by decide) s (by omega)) ?_
 rw [Ch]
 have hd := Ar2 s Mg
 refine Fv hd ?_
 refine Dq (Bm1 (s.drop (Gi s Mg).length) (by rw [List.length_drop]; omega)) ?_
 rw [Eo, Ce, Ew, Ce]
 refine Dq (Bgz (Gi s Mg)) ?_
 rw [Ce]
 refine Aw (fun e => ?_) (fun e => ?_)
 · have h2 : 2 ≤ (Gi s Mg).length := by
    have e := e
    unfold Nw at e
    rw [Bool.or_eq_true, decide_eq_true_eq, decide_eq_true_eq] at e
    rcases e with e | e <;> (have := congrArg List.length e; simp [hx1, hx2] at this; omega)
   refine Fv h2 ?_
   refine Al1 (B := 16) (set := Gj) he ha hp Ald (by decide) Ayj (by decide) (by rw [List.length_drop]; omega) fun h' => ?_
   show Afy _ = Afy _
   unfold Ap2; rw [if_pos e]
 · have e : ¬ Nw (Gi s Mg) = true := by rw [e]; simp
   refine Dq (A0r (Gi s Mg) [48]) ?_
   rw [Ce]
   refine Aw (fun e2 => ?_) (fun e2 => ?_)
   · have e2 : (Gi s Mg).take 1 = [48] := of_decide_eq_true e2
     refine Al1 (B := 8) (set := Aab) he ha hp Atk (by decide) Ayi (by decide) (by omega) fun h' => ?_
     show Afy _ = Afy _
     unfold Ap2; rw [if_neg e, if_pos e2]
   · have e2 : ¬ (Gi s Mg).take 1 = [48] := of_decide_eq_false e2
     refine Al1 (B := 10) (set := Ir) he ha hp Alp (by decide) Ayk (by decide) (by omega) fun h' => ?_
     show Afy _ = Afy _
     unfold Ap2; rw [if_neg e, if_neg e2]
end Go.Den
