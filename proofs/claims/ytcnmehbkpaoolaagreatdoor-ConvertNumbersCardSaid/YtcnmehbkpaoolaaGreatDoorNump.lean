/-
 Proof.
-/
import Derived.Test.YtcnmehbkpaoolaaGreatDoorLaid
import Derived.KernelRfl
noncomputable section
namespace Go.Den
open Go.RowKit
set_option maxRecDepth 100000
theorem Amm {n : Nat} (h : n < 256) : wrap .u8 (Int.ofNat n) = Int.ofNat n := by
 rw [Ga]
 simp [IntKind.wrap, IntKind.bits, IntKind.signed]
 omega
def Bhm (v : Nat) (l : List UInt8) : Nat := l.foldl (fun v b => (v * 256 % 4294967296) ||| b.toNat) v
def cvI (l : List UInt8) : Int := if 1 < l.length then wrap .i64 (wrap .i32 (Int.ofNat (Bhm 0 l))) else wrap .i64 (wrap .i8 (Int.ofNat (l.headD 0).toNat))
def Sk (s : List UInt8) : Option (Int × Bool) := match Ll s with
 | none => none
 | some l => if (Bf s).1 = [117, 56] ∨ ¬ (s.drop (Bf s).1.length).head? = some 39 ∨ l = [] ∨ 8 < l.length then none else some (wrap .u64 (cvI l), decide ((Bf s).1 = [117]) || decide ((Bf s).1 = [85]))
def Avr (o : Option (Int × Bool)) : AV := match o with
 | some p => .tuple [.agg [.int .u64 p.1, .bool p.2], .bool true]
 | none => A09
theorem gc2 (a b : AV) (t : Tm) : Bq (Ah [a, b] 0 t) 2 0 = [a, b] := by
 rw [Fz]
 have h0 : Ba (Ah [a, b] 0 t) 0 = a := by rw [Ao]; simp
 have h1 : Ba (Ah [a, b] 0 t) 1 = b := by rw [Ao]; simp
 show [Ba (Ah [a, b] 0 t) (0 + 0), Ba (Ah [a, b] 0 t) (0 + 1)] = _
 rw [h0, h1]
theorem Bg5 (n : Int) (b : Bool) (h : H) : Bt env (env.ty 55) [(0, (.int .u64 n)), (1, (.bool b))] h = some (.agg [.int .u64 n, .bool b], h) := by kernel_rfl
theorem Bes (s : List UInt8) : Bp s.length (enc s) 1 117 = decide (s = [117]) := Df (t := [117])
theorem Bl8 (s : List UInt8) : Bp s.length (enc s) 1 85 = decide (s = [85]) := Df (t := [85])
theorem Bl5 (s : List UInt8) : Bp s.length (enc s) 2 14453 = decide (s = [117, 56]) := Df (t := [117, 56])
theorem A1v {p : P} {h : H} {t : Tm} {L : List UInt8} {n : Int} {m : Nat} {k : KV} (ha : h.at p = .row t 2 0 55 true) (hk : ∀ h', k (.tuple [.agg [.int .u64 (wrap .u64 n), .bool (decide (L = [117]) || decide (L = [85]))], .bool true]) h') : (r66 W1 k (m + 1)).a2 (.ptr p 0) L.length (enc L) n h := by
 refine Bdx ?_
 unfold Am1
 rw [Ar]
 refine Kh ?_
 rw [Bes, Bl8, Bg5, Ae]
 refine Ty ha (Nat.le_refl _) rfl (by decide) (by decide) ?_
 refine Acr (Bn _ _ _) (by decide) ?_
 rw [gc2]
 exact hk _
theorem Bjs {v : Nat} {K : Int → Prop} : Apo .u32 (Int.ofNat v) (Int.ofNat 8) K = K (Int.ofNat (v * 256 % 4294967296)) := by
 show fI (wrap .u32 (Int.ofNat v * 2 ^ (min 8 (IntKind.bits .u32)))) K = _
 have e : wrap .u32 (Int.ofNat v * 2 ^ (min 8 (IntKind.bits .u32))) = Int.ofNat (v * 256 % 4294967296) := by
  rw [Ga]
  have : (2 : Int) ^ (min 8 (IntKind.bits .u32)) = 256 := by decide
  rw [this]
  show IntKind.wrap .u32 ((v : Int) * 256) = ((v * 256 % 4294967296 : Nat) : Int)
  simp [IntKind.wrap, IntKind.bits, IntKind.signed]
 rw [e, Ar]
theorem wrap32 {n : Nat} (h : n < 4294967296) : wrap .u32 (Int.ofNat n) = Int.ofNat n := by
 rw [Ga]
 simp [IntKind.wrap, IntKind.bits, IntKind.signed]
 omega
theorem Bdr {a b : Nat} {K : Int → Prop} (ha : a < 4294967296) (hb : b < 4294967296) : Abz Nat.lor .u32 (Int.ofNat a) (Int.ofNat b) K = K (Int.ofNat (a ||| b)) := by
 show (Bool.rec False (fN (Nat.lor a b) (fun n => K (.ofNat n))) (Ai (Nat.ble a (intMax .u32)) (Nat.ble b (intMax .u32))) : Prop) = _
 rw [Nat.ble_eq_true_of_le (show a ≤ intMax .u32 by show a ≤ 4294967295; omega), Nat.ble_eq_true_of_le (show b ≤ intMax .u32 by show b ≤ 4294967295; omega)]
 rfl
theorem A1w {p : P} {h : H} {t : Tm} {L l : List UInt8} {k : KV} {e : Nat} (ha : h.at p = .row t 2 0 55 true) (hl : l.length ≤ 1000) : ∀ (n i v : Nat), l.length - i + e + 1 ≤ n → i ≤ l.length → (∀ n', e ≤ n' → (r66 W1 k n').a2 (.ptr p 0) L.length (enc L) (wrap .i64 (wrap .i32 (Int.ofNat (Bhm v (l.drop i))))) h) →
    (r66 W1 k n).a1 (.ptr p 0) l.length (enc l) L.length (enc L) (Int.ofNat v) (Int.ofNat l.length) (Int.ofNat i) h
  | 0, _, _, hn, _, _ => absurd hn (by omega)
  | n + 1, i, v, hn, hi, hk => by
    refine Bdy ?_
    unfold Am2
    rw [ilt]
    refine Bb (fun e' => ?_) (fun e' => ?_)
    · have e' : i < l.length := of_decide_eq_true e'
      have hd : l.drop i = l[i] :: l.drop (i + 1) := List.drop_eq_getElem_cons e'
      have hx := (l[i]).toNat_lt
      rw [Bjs, As]
      refine Cr e' ?_
      rw [wrap32 (by omega), Ar, Bdr (Nat.mod_lt _ (by decide)) (by omega), Aam (by omega), Ar]
      refine A1w (e := e) ha hl n (i + 1) _ (by omega) e' ?_
      intro n' hn'
      have := hk n' hn'
      rw [hd] at this
      exact this
    · have hd : l.drop i = [] := by
        have : ¬ i < l.length := of_decide_eq_false e'
        rw [List.drop_eq_nil_iff]; omega
      have := hk n (by omega)
      rw [hd] at this
      rw [Ar, Ar]
      exact this
theorem c66 (s : List UInt8) (hl : s.length ≤ 549755813888) : Pure PP G h0 66 [S s] (Avr (Sk s)) := by
  refine w66 (n := 1015) Bm (g66 ?_)
  unfold Am3
  refine Ek ?_
  have ha : (h0.new Ah8).at h0.next = .row (Ah [.int .u64 (Int.ofNat 0), .bool false] 0 .e) 2 0 55 true := Aw _ _
  refine Dq (c59 s hl) ?_ rfl (by cases Ll s <;> rfl)
  have bad : ∀ {h : H}, h.at h0.next = .row (Ah [.int .u64 (Int.ofNat 0), .bool false] 0 .e) 2 0 55 true → Sk s = none → (oK (Bt env (env.ty 55) [] h) fun v30 h31 =>
      stn 2 (.ptr h0.next 0) v30 h31 fun h32 =>
      ldn 2 (.ptr h0.next 0) h32 fun v33 =>
      (fun v (_ : H) => v = Avr (Sk s) : KV) (.tuple [v33, (.bool false)]) h32) := by
    intro h ha e
    rw [b25, Ae]
    refine Ty ha (Nat.le_refl _) rfl (by decide) (by decide) ?_
    refine Acr (Bn _ _ _) (by decide) ?_
    rw [gc2]
    show AV.tuple _ = _
    rw [e]; rfl
  cases hb : Ll s with
  | none =>
    rw [show Aqt none = .tuple [S [], .bool false] from rfl, En, Ck, Ev, Cg]
    refine Dq (c60 s) ?_
    rw [En, Ck, Ev, Cg]
    refine We (fun e => by cases e) (fun _ => ?_)
    refine We (fun e => by cases e) (fun _ => ?_)
    refine We (fun e => by cases e) (fun _ => ?_)
    refine We (fun e => by cases e) (fun _ => ?_)
    refine Cd rfl ?_
    exact bad ha (by unfold Sk; rw [hb])
  | some l =>
    have hlet : (Bf s).2 = true := by
      unfold Ll at hb
      by_cases h : (Bf s).2 = true
      · exact h
      · rw [if_neg h] at hb; cases hb
    have hq : Np (s.drop (Bf s).1.length) = true := (Qe s Ow hlet).2
    have hlt : (Bf s).1.length < s.length := by
      have hle := Xd s
      rcases Nat.lt_or_ge (Bf s).1.length s.length with h | h
      · exact h
      · have : s.drop (Bf s).1.length = [] := by rw [List.drop_eq_nil_iff]; exact h
        rw [this] at hq; cases hq
    have hhead : (s.drop (Bf s).1.length).head? = some (s[(Bf s).1.length]) := by rw [List.drop_eq_getElem_cons hlt]; rfl
    have ec : Sk s = if (Bf s).1 = [117, 56] ∨ ¬ some (s[(Bf s).1.length]) = some 39 ∨ l = [] ∨ 8 < l.length then none else some (wrap .u64 (cvI l), decide ((Bf s).1 = [117]) || decide ((Bf s).1 = [85])) := by
      unfold Sk; rw [hb, hhead]
    rw [show Aqt (some l) = .tuple [S l, .bool true] from rfl, En, Ck, Ev, Cg]
    refine Dq (c60 s) ?_
    rw [En, Ck, Ev, Cg]
    refine Kh ?_
    rw [Bl5]
    refine We (fun e => ?_) (fun e => ?_)
    · refine Cr hlt ?_
      rw [toNat_eq _ 39 (by decide), Bl]
      refine Kh ?_
      rw [Gn]
      refine Kh ?_
      rw [ilt]
      have e1 : ¬ (Bf s).1 = [117, 56] := by simpa using e
      refine Bb (fun e2 => ?_) (fun e2 => ?_)
      · refine bad ha ?_
        rw [ec]
        refine if_pos ?_
        simp only [Bool.or_eq_true, Bool.not_eq_true', decide_eq_true_eq, decide_eq_false_iff_not] at e2
        rcases e2 with (e2 | e2) | e2
        · exact .inr (.inl fun h => e2 (Option.some.inj h))
        · exact .inr (.inr (.inl e2))
        · exact .inr (.inr (.inr e2))
      · simp only [Bool.or_eq_false_iff, Bool.not_eq_false', decide_eq_false_iff_not, decide_eq_true_eq] at e2
        obtain ⟨⟨e2, e3⟩, e4⟩ := e2
        have ec : Sk s = some (wrap .u64 (cvI l), decide ((Bf s).1 = [117]) || decide ((Bf s).1 = [85])) := by
          rw [ec, if_neg]
          rintro (h | h | h | h)
          · exact e1 h
          · exact h (congrArg some e2)
          · exact e3 h
          · exact e4 h
        have hpos : 0 < l.length := by
          cases l with
          | nil => exact absurd rfl e3
          | cons _ _ => simp
        refine Cr hpos ?_
        rw [Ar, Ar, ilt]
        refine Bb (fun e5 => ?_) (fun e5 => ?_)
        · have e5 : 1 < l.length := of_decide_eq_true e5
          refine A1w (e := 1) ha (by omega) 1014 0 0 (by omega) (Nat.zero_le _) ?_
          intro n' hn'
          obtain ⟨n', rfl⟩ : ∃ m, n' = m + 1 := ⟨n' - 1, by omega⟩
          refine A1v ha fun h' => ?_
          show AV.tuple _ = _
          rw [ec]
          show AV.tuple _ = AV.tuple _
          unfold cvI
          rw [if_pos e5, List.drop_zero]
        · have e5 : ¬ 1 < l.length := of_decide_eq_false e5
          refine A1v ha fun h' => ?_
          show AV.tuple _ = _
          rw [ec]
          show AV.tuple _ = AV.tuple _
          unfold cvI
          rw [if_neg e5]
          have : l.headD 0 = l[0] := by
            cases l with
            | nil => exact absurd rfl e3
            | cons _ _ => rfl
          rw [this]
    · refine We (fun e => by cases e) (fun _ => ?_)
      refine We (fun e => by cases e) (fun _ => ?_)
      refine Cd rfl ?_
      refine bad ha ?_
      rw [ec]
      exact if_pos (.inl (by simpa using e))
def Ir (c : UInt8) : Nat := if c.toNat ≤ 57 then c.toNat - 48 else if c.toNat ≤ 70 then c.toNat - 55 else c.toNat - 87
def Pn (B v : Nat) (l : List UInt8) : Nat := l.foldl (fun v c => v * B + Ir c) v
theorem Adg {B : Nat} (hB : 1 ≤ B) : ∀ (l : List UInt8) (v : Nat), v ≤ Pn B v l
 | [], _ => Nat.le_refl _
 | c :: l, v => Nat.le_trans (Nat.le_trans (Nat.le_mul_of_pos_right v hB) (Nat.le_add_right _ _)) (Adg hB l (v * B + Ir c))
theorem Bg7 {x : UInt8} {K : Int → Prop} : asI .u8 (ub x) K = K (Int.ofNat x.toNat) := rfl
theorem Amn (n : Nat) : wrap .u64 (Int.ofNat n) = Int.ofNat (n % 18446744073709551616) := by
 rw [Ga]
 simp [IntKind.wrap, IntKind.bits, IntKind.signed]
theorem Adf {n : Nat} (h : n < 18446744073709551616) : wrap .u64 (Int.ofNat n) = Int.ofNat n := by rw [Amn, Nat.mod_eq_of_lt h]
theorem A8w (x : UInt8) : Pure PP G h0 221 [.int .u8 (Int.ofNat x.toNat)] (.int .u8 (Int.ofNat (x.toNat ||| 32))) := by
 refine A9x (n := 1) Bm (Bkw ?_)
 unfold Adw
 show (Bool.rec False (fN (Nat.lor x.toNat 32) (fun n => _)) (Ai (Nat.ble x.toNat (intMax .u8)) (Nat.ble 32 (intMax .u8))) : Prop)
 rw [Nat.ble_eq_true_of_le (show x.toNat ≤ intMax .u8 by have := x.toNat_lt; show x.toNat ≤ 255; omega)]
 show fN (Nat.lor x.toNat 32) _
 rw [Bei]; rfl
theorem Azn : ∀ x ∈ Gk, 57 < x.toNat → 97 ≤ (x.toNat ||| 32) ∧ (x.toNat ||| 32) ≤ 122 ∧ Ir x = (x.toNat ||| 32) - 87 ∧ 48 ≤ x.toNat := by decide
theorem A5n : ∀ x ∈ Gk, 48 ≤ x.toNat ∧ x.toNat ≠ 95 ∧ Ir x < 16 := by decide
def puV (v : Nat) : AV := if v < 18446744073709551616 then .tuple [.int .u64 (Int.ofNat v), .Hl] else .tuple [.int .u64 (Int.ofNat 18446744073709551615), .iface 304 (.int .i64 (Int.ofNat 1))]
abbrev M64 : Nat := 18446744073709551615
def Frame (h h' : H) : Prop := h.next.nat ≤ h'.next.nat ∧ ∀ c, c.nat < h.next.nat → h'.at c = h.at c
theorem Ayl {h : H} {q : P} {t : Tm} {m z n : Nat} {e : TypeId} {w ti : Bool} {l : List UInt8} (ha : h.at q = .row t m z e w) (hm : l.length ≤ m) (hc : Dx t l) {i : Nat} (hi : i < l.length) (hn : n = l.length) {K : AV → Prop} (hk : K (ub l[i])) : Cf 1 i (.slice q 0 n 1 ti) fun v' => ld1 v' h K := by
 subst hn
 show (Bool.rec Ak (fN (Nat.add 0 (Nat.mul i 1)) (fun q' => ld1 (.ptr q q') h K)) (Ai (Nat.ble (Nat.add i 1) l.length) (Nat.beq 1 1)) : Prop)
 rw [Nat.ble_eq_true_of_le (show Nat.add i 1 ≤ l.length from hi)]
 have e1 : Nat.add 0 (Nat.mul i 1) = i := by show 0 + i * 1 = i; omega
 rw [e1]
 show ld1 (.ptr q i) h K
 refine Da ha (by omega) ?_
 rw [hc i hi]; exact hk
section
variable {B : Nat} {s s0 set : List UInt8} {q : P} {t : Tm} {h : H} {k : KV}
theorem Av7 (hB : 2 ≤ B ∧ B ≤ 16) (hset : ∀ x ∈ s, x ∈ Gk ∧ Ir x < B) (hl : s.length ≤ 1099511627776) (ha : h.at q = .row t s.length 0 TB false) (hc : Dx t s) : ∀ (n i v : Nat), 2 * (s.length - i) + 1 ≤ n → i ≤ s.length → v ≤ M64 → k (puV (Pn B v (s.drop i))) h →
    (Pd W1 k n).a1 (Int.ofNat B) false s0.length (enc s0) (Int.ofNat (M64 / B + 1)) (Int.ofNat M64) false (Int.ofNat v) (.slice q 0 s.length 1 false) (Int.ofNat s.length) (Int.ofNat i) h
  | 0, _, _, hn, _, _, _ => absurd hn (by omega)
  | n + 1, i, v, hn, hi, hv, hk => by
    refine A4z ?_
    unfold Ad9
    rw [ilt]
    by_cases e : i < s.length
    · refine Cd (decide_eq_true e) ?_
      have hd : s.drop i = s[i] :: s.drop (i + 1) := List.drop_eq_getElem_cons e
      obtain ⟨hx, hdg⟩ := hset _ (List.getElem_mem e)
      obtain ⟨h48, h95, h16⟩ := A5n _ hx
      have h256 := (s[i]).toNat_lt
      have step : ∀ (h2 : h = h), (Pd W1 k n).a2 (Int.ofNat B) false s0.length (enc s0) (Int.ofNat (M64 / B + 1)) (Int.ofNat M64) false (Int.ofNat v) (Int.ofNat (Ir s[i])) (.slice q 0 s.length 1 false) (Int.ofNat s.length) (Int.ofNat i) h := by
        intro _
        obtain ⟨n, rfl⟩ : ∃ n', n = n' + 1 := ⟨n - 1, by omega⟩
        refine A4y ?_
        unfold Ad8
        rw [Amm (show B < 256 by omega), Ar, ile]
        refine Bi (decide_eq_false (by omega)) ?_
        rw [ile]
        have hq := Nat.div_add_mod M64 B
        have hqm := Nat.mod_lt M64 (show 0 < B by omega)
        refine Bb (fun e1 => ?_) (fun e1 => ?_)
        · have e1 : M64 / B + 1 ≤ v := of_decide_eq_true e1
          have h1 : M64 < v * B := by
            have : (M64 / B + 1) * B ≤ v * B := Nat.mul_le_mul_right B e1
            rw [Nat.add_mul, Nat.one_mul] at this
            rw [Nat.mul_comm] at hq
            omega
          rw [hd] at hk
          have h2 : v * B + Ir s[i] ≤ Pn B v (s[i] :: s.drop (i + 1)) := Adg (by omega) _ _
          unfold puV at hk
          rw [if_neg (by show ¬ _ < M64 + 1; omega)] at hk
          exact hk
        · have e1 : ¬ M64 / B + 1 ≤ v := of_decide_eq_false e1
          have h1 : v * B ≤ M64 := by
            have : v * B ≤ M64 / B * B := Nat.mul_le_mul_right B (by omega)
            rw [Nat.mul_comm] at hq
            omega
          have hB64 : B < 18446744073709551616 := by omega
          rw [Adf hB64, Ar, show Int.ofNat v * Int.ofNat B = Int.ofNat (v * B) from rfl, Adf (show v * B < M64 + 1 by omega), Ar, Adf (show Ir s[i] < M64 + 1 by show _ < 18446744073709551616; omega), Ar, Dm, Amn, Ar, ilt]
          refine Kh ?_
          rw [ilt]
          refine Bb (fun e2 => ?_) (fun e2 => ?_)
          · have h3 : M64 < v * B + Ir s[i] := by
              simp only [Bool.or_eq_true, decide_eq_true_eq] at e2
              rcases e2 with e2 | e2
              · rcases Nat.lt_or_ge M64 (v * B + Ir s[i]) with h | h
                · exact h
                · rw [Nat.mod_eq_of_lt (show _ < M64 + 1 by omega)] at e2; omega
              · have := Nat.mod_lt (v * B + Ir s[i]) (show 0 < 18446744073709551616 by decide)
                have e2 : M64 < (v * B + Ir s[i]) % 18446744073709551616 := e2
                have : (v * B + Ir s[i]) % 18446744073709551616 < M64 + 1 := this
                omega
            rw [hd] at hk
            have h2 : v * B + Ir s[i] ≤ Pn B v (s[i] :: s.drop (i + 1)) := Adg (by omega) _ _
            unfold puV at hk
            rw [if_neg (by show ¬ _ < M64 + 1; omega)] at hk
            exact hk
          · have h3 : v * B + Ir s[i] ≤ M64 := by
              simp only [Bool.or_eq_false_iff, decide_eq_false_iff_not] at e2
              rcases Nat.lt_or_ge M64 (v * B + Ir s[i]) with h | h
              · exfalso
                have e3 : (v * B + Ir s[i]) % 18446744073709551616 = v * B + Ir s[i] - 18446744073709551616 := by
                  rw [Nat.mod_eq_sub_mod (show 18446744073709551616 ≤ v * B + Ir s[i] from h), Nat.mod_eq_of_lt (by have : v * B ≤ 18446744073709551615 := h1; omega)]
                rw [e3] at e2
                have : v * B ≤ 18446744073709551615 := h1
                omega
              · exact h
            rw [Aam (by omega), Ar, Nat.mod_eq_of_lt (show _ < M64 + 1 by omega)]
            refine Av7 hB hset hl ha hc n (i + 1) _ (by omega) e h3 ?_
            rw [hd] at hk
            exact hk
      rw [As]
      refine Ayl ha (Nat.le_refl _) hc e rfl ?_
      rw [Bg7]
      refine Sp ?_
      refine Bi (by rw [Bool.and_false]) ?_
      refine Sp ?_
      rw [ile, ile]
      by_cases e1 : (s[i]).toNat ≤ 57
      · refine Cd (by rw [decide_eq_true h48, decide_eq_true e1]; rfl) ?_
        rw [Acw h48, Amm (by omega), Ar]
        have : (s[i]).toNat - 48 = Ir s[i] := by unfold Ir; rw [if_pos e1]
        rw [this]
        exact step rfl
      · refine Bi (by rw [decide_eq_false e1, Bool.and_false]) ?_
        obtain ⟨g1, g2, g3, _⟩ := Azn _ hx (by omega)
        refine Dq (A8w s[i]) ?_
        rw [Au, ile]
        refine Ly (b := true) (fun k' hk' => ?_) ?_
        · refine Dq (A8w s[i]) ?_
          rw [Au, ile, decide_eq_true g2]; exact hk'
        refine Cd (by rw [decide_eq_true g1]; rfl) ?_
        refine Dq (A8w s[i]) ?_
        rw [Au, Acw g1, Amm (by omega), Ar, Dm, Amm (by omega), Ar]
        rw [show ((s[i]).toNat ||| 32) - 97 + 10 = Ir s[i] by rw [g3]; omega]
        exact step rfl
    · refine Bi (decide_eq_false e) ?_
      have hd : s.drop i = [] := by rw [List.drop_eq_nil_iff]; omega
      rw [hd] at hk
      have hk : k (puV v) h := hk
      unfold puV at hk
      rw [if_pos (show v < M64 + 1 by omega)] at hk
      refine Iz (fun e => by cases e) (fun _ => ?_)
      exact Bi rfl hk
end
theorem cv9 (l c : Nat) (h : H) : Gm env h 9 115 (.str l c) = some (.slice h.next 0 l 1 false, h.new (.row (Ah (byteCells l c) 0 .e) l 0 TB false)) := by kernel_rfl
theorem Ac6 : ∀ l : List UInt8, byteCells l.length (enc l) = ubs l
 | [] => rfl
 | x :: l => by
  obtain ⟨h1, h2⟩ := Rk x l
  show (.int .u8 (.ofNat (Nat.mod (enc (x :: l)) 256)) :: byteCells l.length (Nat.div (enc (x :: l)) 256) : List AV) = _
  rw [h1, h2, Ac6 l]; rfl
theorem Bb7 {K : Int → Prop} : Apo .u64 (Int.ofNat 1) (Int.ofNat 64) K = K (Int.ofNat 0) := by
 have e : wrap .u64 (Int.ofNat 1 * 2 ^ (min 64 (IntKind.bits .u64))) = Int.ofNat 0 := by kernel_rfl
 show fI (wrap .u64 (Int.ofNat 1 * 2 ^ (min 64 (IntKind.bits .u64)))) K = _
 rw [e, Ar]
theorem Bcg {K : Int → Prop} : Ays .u64 (Int.ofNat 18446744073709551615) (Int.ofNat 8) K = K (Int.ofNat (M64 / 8)) := by
 have e : wrap .u64 ((Int.ofNat 18446744073709551615).tdiv (Int.ofNat 8)) = Int.ofNat (M64 / 8) := by kernel_rfl
 show fI (wrap .u64 ((Int.ofNat 18446744073709551615).tdiv (Int.ofNat 8))) K = _
 rw [e, Ar]
theorem Bm1 {B : Nat} {s : List UInt8} {h : H} {k : KV} (hB : B = 8 ∨ B = 10 ∨ B = 16) (hne : s ≠ []) (hset : ∀ x ∈ s, x ∈ Gk ∧ Ir x < B) (hl : s.length ≤ 1099511627776) (hk : ∀ h', Frame h h' → k (puV (Pn B 0 s)) h') : W1 (.func 173) [S s, .int .i64 (Int.ofNat B), .int .i64 (Int.ofNat 64)] h k := by
 refine A94 (n := 2 * s.length + 20) Bm (Bk3 ?_)
 unfold Aea
 have e0 : Bp s.length (enc s) 0 0 = false := by rw [Gn]; exact decide_eq_false hne
 refine Bi e0 ?_
 refine Sp ?_
 have hB2 : 2 ≤ B ∧ B ≤ 16 := by omega
 refine Cd (by rw [ile, ile, decide_eq_true (show 2 ≤ B by omega), decide_eq_true (show B ≤ 36 by omega)]; rfl) ?_
 rw [Mq, decide_eq_false (show ¬ B = 0 by omega)]
 refine A4v ?_
 unfold Ad5
 refine Bi rfl ?_
 refine Kh ?_
 refine Bi rfl ?_
 refine A4w ?_
 unfold Ad6
 have main : ∀ n, 2 * s.length + 2 ≤ n → (Pd W1 k n).a3 s.length (enc s) (Int.ofNat B) (Int.ofNat 64) false s.length (enc s) (Int.ofNat (M64 / B + 1)) h := by
  intro n hn
  obtain ⟨n, rfl⟩ : ∃ n', n = n' + 1 := ⟨n - 1, by omega⟩
  refine A4x ?_
  unfold Ad7
  rw [show wrap .u64 (Int.ofNat 64) = Int.ofNat 64 by kernel_rfl, Ar]
  rw [Bb7, show wrap .u64 (Jr (Int.ofNat 0) (Int.ofNat 1)) = Int.ofNat M64 by kernel_rfl, Ar, cv9, Ae, Jk, Ac6]
  refine Av7 hB2 hset hl (Aw _ _) (Dx.new s .e) n 0 0 (by omega) (Nat.zero_le _) (Nat.zero_le _) ?_
  rw [List.drop_zero]
  exact hk _ ⟨by rw [Bc]; omega, fun c hc => Dl hc⟩
 rcases hB with rfl | rfl | rfl
 · refine Bi rfl ?_
   refine Bi rfl ?_
   rw [show wrap .u64 (Int.ofNat 8) = Int.ofNat 8 by kernel_rfl, Ar]
   rw [Bcg, show wrap .u64 (Bo (Int.ofNat (M64 / 8)) (Int.ofNat 1)) = Int.ofNat (M64 / 8 + 1) by kernel_rfl, Ar]
   exact main _ (by omega)
 · refine Cd rfl ?_
   exact main _ (by omega)
 · refine Bi rfl ?_
   refine Cd rfl ?_
   exact main _ (by omega)
theorem Atp (t : TypeId) (v : AV) : On env .neq 151 (.iface t v) .Hl = some (.bool true) := by kernel_rfl
theorem Ato : On env .neq 151 .Hl .Hl = some (.bool false) := by kernel_rfl
theorem Bnd {B : Nat} {s : List UInt8} {h : H} {k : KV} (he : Jj h) (hB : B = 8 ∨ B = 10 ∨ B = 16) (hne : s ≠ []) (hset : ∀ x ∈ s, x ∈ Gk ∧ Ir x < B) (hl : s.length ≤ 1099511627776)
    (hk1 : Pn B 0 s < 18446744073709551616 → ∀ h', Frame h h' → k (.tuple [.int .u64 (Int.ofNat (Pn B 0 s)), .Hl]) h') (hk2 : ¬ Pn B 0 s < 18446744073709551616 → ∀ h' p, Frame h h' → k (.tuple [.int .u64 (Int.ofNat 18446744073709551615), .iface 306 (.ptr p 0)]) h') : W1 (.func 117) [S s, .int .i64 (Int.ofNat B), .int .i64 (Int.ofNat 64)] h k := by
  refine Bar (n := 1) Bm (Blr ?_)
  unfold Ae9
  refine Bm1 hB hne hset hl fun h' hf => ?_
  unfold puV
  by_cases e : Pn B 0 s < 18446744073709551616
  · rw [if_pos e, En, Au, Ev, Ato, Ko, Cg]
    refine Bi rfl ?_
    exact hk1 e h' hf
  · rw [if_neg e, En, Au, Ev, Atp, Ko, Cg]
    refine Cd rfl ?_
    refine Bm0 (fn := [80, 97, 114, 115, 101, 85, 105, 110, 116]) ?_
    refine Bmv (he.keep hf.1 hf.2) hl fun h2 p hn2 hf2 => ⟨p, rfl, ?_⟩
    exact hk2 e h2 p ⟨Nat.le_trans hf.1 hn2, fun c hc => by rw [hf2 c (Nat.lt_of_lt_of_le hc hf.1), hf.2 c hc]⟩
end Go.Den
namespace Go.Den
open Go.RowKit
set_option maxRecDepth 100000
def Vz (r : List UInt8) : Bool := decide (r = []) || decide (r = [108]) || decide (r = [76]) || decide (r = [108, 108]) || decide (r = [76, 76])
def Aai (c : UInt8) : Bool := decide (c = 117) || decide (c = 85)
def Aag (s : List UInt8) : Bool := match s.getLast? with
 | some c => Aai c
 | none => false
def Ys (s : List UInt8) : Bool × Bool := match s with
 | [] => (false, true)
 | c :: t => if Aai c then (true, Vz t) else if Aag (c :: t) then (true, Vz (c :: t).dropLast) else (false, Vz (c :: t))
theorem Bl6 (s : List UInt8) : Bp s.length (enc s) 2 27756 = decide (s = [108, 108]) := Df (t := [108, 108])
theorem Bl7 (s : List UInt8) : Bp s.length (enc s) 2 19532 = decide (s = [76, 76]) := Df (t := [76, 76])
theorem Agu {r : List UInt8} {u : Bool} {h : H} {k : KV} {n : Nat} (hk : k (.tuple [.bool u, .bool (Vz r)]) h) : (Ah3 W1 k (n + 1)).a1 r.length (enc r) u h := by
 refine A5c ?_
 unfold Afc
 refine Kh ?_
 refine Kh ?_
 refine Kh ?_
 refine Kh ?_
 rw [Gn, A1p, Ber, Bl6, Bl7]
 exact hk
theorem Bne (s : List UInt8) (hl : s.length ≤ 1099511627776) : Pure PP G h0 113 [S s] (.tuple [.bool (Ys s).1, .bool (Ys s).2]) := by
 refine Bav (n := 2) Bm (Blv ?_)
 unfold Afd
 cases s with
 | nil =>
  refine Cd rfl ?_
  exact Agu (r := []) rfl
 | cons c t =>
  refine Bi (Ky c t) ?_
  refine Cr (s := c :: t) (Nat.zero_lt_succ _) ?_
  refine Ry (b := decide (c = 85)) (fun k' hk' => ?_) ?_
  · refine Cr (s := c :: t) (Nat.zero_lt_succ _) ?_
    rw [List.getElem_cons_zero, toNat_eq _ 85 (by decide)]; exact hk'
  rw [List.getElem_cons_zero, toNat_eq _ 117 (by decide)]
  refine Bb (fun e => ?_) (fun e => ?_)
  · have e : Aai c = true := e
    refine Fv (s := c :: t) (Nat.le_add_left 1 _) ?_
    refine Agu (r := t) ?_
    show AV.tuple _ = AV.tuple _
    have : Ys (c :: t) = (true, Vz t) := if_pos e
    rw [this]
  · have e : ¬ Aai c = true := fun h => by rw [show Aai c = false from e] at h; cases h
    have h1 : 1 ≤ (c :: t).length := Nat.le_add_left 1 _
    have h2 : (c :: t).length - 1 < (c :: t).length := by omega
    have hlast : (c :: t).getLast? = some ((c :: t)[(c :: t).length - 1]) := by rw [List.getLast?_eq_getElem?, List.getElem?_eq_getElem h2]
    have hlu : Aag (c :: t) = Aai ((c :: t)[(c :: t).length - 1]) := by unfold Aag; rw [hlast]
    rw [A1i h1 (by omega), Ar, As]
    refine Cr h2 ?_
    refine Ry (b := decide ((c :: t)[(c :: t).length - 1] = 85)) (fun k' hk' => ?_) ?_
    · rw [Ar, As]
      refine Cr h2 ?_
      rw [toNat_eq _ 85 (by decide)]; exact hk'
    rw [toNat_eq _ 117 (by decide)]
    refine Bb (fun e2 => ?_) (fun e2 => ?_)
    · have e2 : Aai ((c :: t)[(c :: t).length - 1]) = true := e2
      rw [Ar, As]
      refine Als (by omega) ?_
      refine Agu ?_
      show AV.tuple _ = AV.tuple _
      have : Ys (c :: t) = (true, Vz (c :: t).dropLast) := by
       show (if Aai c then (true, Vz t) else if Aag (c :: t) then (true, Vz (c :: t).dropLast) else (false, Vz (c :: t))) = _
       rw [if_neg e, hlu, if_pos e2]
      rw [this, List.dropLast_eq_take]
    · have e2 : ¬ Aai ((c :: t)[(c :: t).length - 1]) = true := fun h => by rw [show Aai ((c :: t)[(c :: t).length - 1]) = false from e2] at h; cases h
      refine Agu ?_
      show AV.tuple _ = AV.tuple _
      have : Ys (c :: t) = (false, Vz (c :: t)) := by
       show (if Aai c then (true, Vz t) else if Aag (c :: t) then (true, Vz (c :: t).dropLast) else (false, Vz (c :: t))) = _
       rw [if_neg e, hlu, if_neg e2]
      rw [this]
def Apz (u ok : Bool) (B : Nat) (set dd : List UInt8) : Option (Nat × Bool) :=
 if (!ok || decide (dd = []) || !decide (Cl dd set = dd.length)) = true then none else if Pn B 0 dd < 18446744073709551616 then some (Pn B 0 dd, u || decide (9223372036854775807 < Pn B 0 dd)) else none
def Ak1 (s : List UInt8) : Option (Nat × Bool) :=
 if Oa (Gi s Mh) = true then Apz (Ys (s.drop (Gi s Mh).length)).1 (Ys (s.drop (Gi s Mh).length)).2 16 Gk ((Gi s Mh).drop 2)
 else if (Gi s Mh).take 1 = [48] then Apz (Ys (s.drop (Gi s Mh).length)).1 (Ys (s.drop (Gi s Mh).length)).2 8 Zv (Gi s Mh)
 else Apz (Ys (s.drop (Gi s Mh).length)).1 (Ys (s.drop (Gi s Mh).length)).2 10 Gl (Gi s Mh)
def Afw (o : Option (Nat × Bool)) : AV := match o with
 | some p => .tuple [.agg [.int .u64 (Int.ofNat p.1), .bool p.2], .bool true]
 | none => A09
theorem Al2 {p : P} {h : H} {t : Tm} {u ok : Bool} {B n : Nat} {set dd : List UInt8} {k : KV} (he : Jj h) (ha : h.at p = .row t 2 0 55 true) (hp : p.nat < h.next.nat) (hs : Uk set) (h2 : 2 ≤ set.length) (hset : ∀ x ∈ set, x ∈ Gk ∧ Ir x < B) (hB : B = 8 ∨ B = 10 ∨ B = 16) (hl : dd.length ≤ 1099511627776)
    (hk : ∀ h', k (Afw (Apz u ok B set dd)) h') : (r64 W1 k (n + 1)).a1 (.ptr p 0) dd.length (enc dd) u ok (Int.ofNat B) set.length (enc set) h := by
  refine Bd1 ?_
  unfold Am7
  have bad : Apz u ok B set dd = none → ∀ h : H, h.at p = .row t 2 0 55 true → (oK (Bt env (env.ty 55) [] h) fun v32 h33 =>
      stn 2 (.ptr p 0) v32 h33 fun h34 =>
      ldn 2 (.ptr p 0) h34 fun v35 =>
      k (.tuple [v35, (.bool false)]) h34) := by
    intro e h ha
    rw [b25, Ae]
    refine Ty ha (Nat.le_refl _) rfl (by decide) (by decide) ?_
    refine Acr (Bn _ _ _) (by decide) ?_
    rw [gc2]
    have := hk (h.put p (.row (Ah [.int .u64 (Int.ofNat 0), .bool false] 0 t) 2 0 55 true))
    rw [e] at this
    exact this
  refine Kh ?_
  rw [Gn, Bl]
  refine Ry (b := !decide (Cl dd set = dd.length)) (fun k' hk' => ?_) ?_
  · refine Dq (Aqs hs h2 dd (by omega)) ?_
    rw [Au, Mq, Bl]; exact hk'
  refine Bb (fun e => ?_) (fun e => ?_)
  · exact bad (if_pos e) h ha
  · have en : Apz u ok B set dd = if Pn B 0 dd < 18446744073709551616 then some (Pn B 0 dd, u || decide (9223372036854775807 < Pn B 0 dd)) else none := if_neg (by rw [e]; simp)
    simp only [Bool.or_eq_false_iff, Bool.not_eq_false', decide_eq_true_eq, decide_eq_false_iff_not] at e
    obtain ⟨⟨_, e1⟩, e2⟩ := e
    have hall : ∀ x ∈ dd, x ∈ Gk ∧ Ir x < B := fun x hx => hset x (Afm (s := dd) (set := set) (n := dd.length) (by omega) (by rw [List.take_length]; exact hx))
    refine Bnd he hB e1 hall hl (fun hv h' hf => ?_) (fun hv h' q hf => ?_)
    · rw [if_pos hv] at en
      have ha' : h'.at p = .row t 2 0 55 true := by rw [hf.2 p hp]; exact ha
      rw [En, Au, Ev, Ato, Ko, Cg]
      refine Bi rfl ?_
      refine Kh ?_
      rw [ilt, Bg5, Ae]
      refine Ty ha' (Nat.le_refl _) rfl (by decide) (by decide) ?_
      refine Acr (Bn _ _ _) (by decide) ?_
      rw [gc2]
      have := hk (h'.put p (.row (Ah [.int .u64 (Int.ofNat (Pn B 0 dd)), .bool (u || decide (9223372036854775807 < Pn B 0 dd))] 0 t) 2 0 55 true))
      rw [en] at this
      exact this
    · rw [if_neg hv] at en
      have ha' : h'.at p = .row t 2 0 55 true := by rw [hf.2 p hp]; exact ha
      rw [En, Au, Ev, Atp, Ko, Cg]
      refine Cd rfl ?_
      exact bad en h' ha'
theorem Arv (s set : List UInt8) : (Gi s set).length ≤ s.length := by
 unfold Gi
 rw [List.length_reverse]
 have := (List.dropWhile_sublist (l := s.reverse) (· ∈ set)).length_le
 rw [List.length_reverse] at this; exact this
theorem Ayc : ∀ x ∈ Gk, x ∈ Gk ∧ Ir x < 16 := by decide
theorem Ayb : ∀ x ∈ Zv, x ∈ Gk ∧ Ir x < 8 := by decide
theorem Ayd : ∀ x ∈ Gl, x ∈ Gk ∧ Ir x < 10 := by decide
theorem c64 (s : List UInt8) (hl : s.length ≤ 1099511627776) : Pure PP G h1 64 [S s] (Afw (Ak1 s)) := by
 refine w64 (n := 2) Bm (g64 ?_)
 unfold Am8
 refine Ek ?_
 have he : Jj (h1.new Ah8) := Azp.new
 have ha : (h1.new Ah8).at h1.next = .row (Ah [.int .u64 (Int.ofNat 0), .bool false] 0 .e) 2 0 55 true := Aw _ _
 have hp : h1.next.nat < (h1.new Ah8).next.nat := by rw [Bc]; omega
 refine Dq (Bnf A29 (by decide) s (by omega)) ?_
 rw [Ck]
 have hd := Arv s Mh
 refine Fv hd ?_
 refine Dq (Bne (s.drop (Gi s Mh).length) (by rw [List.length_drop]; omega)) ?_
 rw [En, Cg, Ev, Cg]
 refine Dq (Bgw (Gi s Mh)) ?_
 rw [Cg]
 refine Bb (fun e => ?_) (fun e => ?_)
 · have h2 : 2 ≤ (Gi s Mh).length := by
    have e := e
    unfold Oa at e
    rw [Bool.or_eq_true, decide_eq_true_eq, decide_eq_true_eq] at e
    rcases e with e | e <;> (have := congrArg List.length e; simp [hx1, hx2] at this; omega)
   refine Fv h2 ?_
   refine Al2 (B := 16) (set := Gk) he ha hp Ale (by decide) Ayc (by decide) (by rw [List.length_drop]; omega) fun h' => ?_
   show Afw _ = Afw _
   unfold Ak1; rw [if_pos e]
 · have e : ¬ Oa (Gi s Mh) = true := by rw [e]; simp
   refine Dq (A0j (Gi s Mh) [48]) ?_
   rw [Cg]
   refine Bb (fun e2 => ?_) (fun e2 => ?_)
   · have e2 : (Gi s Mh).take 1 = [48] := of_decide_eq_true e2
     refine Al2 (B := 8) (set := Zv) he ha hp Ate (by decide) Ayb (by decide) (by omega) fun h' => ?_
     show Afw _ = Afw _
     unfold Ak1; rw [if_neg e, if_pos e2]
   · have e2 : ¬ (Gi s Mh).take 1 = [48] := of_decide_eq_false e2
     refine Al2 (B := 10) (set := Gl) he ha hp Alq (by decide) Ayd (by decide) (by omega) fun h' => ?_
     show Afw _ = Afw _
     unfold Ak1; rw [if_neg e, if_neg e2]
end Go.Den
