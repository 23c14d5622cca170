/-
  A part of the proof.
-/
import Derived.Test.YtcnmehbkpaoolaaGreatDoorLaid
import Derived.KernelRfl
noncomputable section
namespace Go.Den
open Go.RowKit
set_option maxRecDepth 100000
theorem Akd {n : Nat} (h : n < 256) : wrap .u8 (Int.ofNat n) = Int.ofNat n := by
  rw [Ey]
  simp [IntKind.wrap, IntKind.bits, IntKind.signed]
  omega
theorem A83 {a b : Nat} {K : Int → Prop} (hb : 0 < b) : Vb (Int.ofNat a) (Int.ofNat b) K = K (Int.ofNat (a % b)) := by
  unfold Vb
  rw [Nl, decide_eq_false (show ¬ b = 0 by omega)]
  show fI (Int.ofNat (a % b)) K = _
  rw [As]
theorem gc2 (a b : AV) (t : Tm) : Bf (Aq [a, b] 0 t) 2 0 = [a, b] := by
  rw [Gj]
  have h0 : Cg (Aq [a, b] 0 t) 0 = a := by rw [Bl]; simp
  have h1 : Cg (Aq [a, b] 0 t) 1 = b := by rw [Bl]; simp
  show [Cg (Aq [a, b] 0 t) (0 + 0), Cg (Aq [a, b] 0 t) (0 + 1)] = _
  rw [h0, h1]
theorem Bcv (n : Int) (b : Bool) (h : H) : Bt env (env.ty 55) [(0, (.int .u64 n)), (1, (.bool b))] h = some (.agg [.int .u64 n, .bool b], h) := by kernel_rfl
end Go.Den
namespace Go.Den
open Go.RowKit
set_option maxRecDepth 100000
def Fl (c : UInt8) : Nat := if c.toNat ≤ 57 then c.toNat - 48 else if c.toNat ≤ 70 then c.toNat - 55 else c.toNat - 87
def Fy (B v : Nat) (l : List UInt8) : Nat := l.foldl (fun v c => v * B + Fl c) v
theorem Ab1 {B : Nat} (hB : 1 ≤ B) : ∀ (l : List UInt8) (v : Nat), v ≤ Fy B v l
  | [], _ => Nat.le_refl _
  | c :: l, v => Nat.le_trans (Nat.le_trans (Nat.le_mul_of_pos_right v hB) (Nat.le_add_right _ _)) (Ab1 hB l (v * B + Fl c))
theorem Bcz {x : UInt8} {K : Int → Prop} : asI .u8 (ub x) K = K (Int.ofNat x.toNat) := rfl
theorem Qf (n : Nat) : wrap .u64 (Int.ofNat n) = Int.ofNat (n % 18446744073709551616) := by
  rw [Ey]
  simp [IntKind.wrap, IntKind.bits, IntKind.signed]
theorem Ms {n : Nat} (h : n < 18446744073709551616) : wrap .u64 (Int.ofNat n) = Int.ofNat n := by rw [Qf, Nat.mod_eq_of_lt h]
theorem A6c (x : UInt8) : Pure PP G h0 221 [.int .u8 (Int.ofNat x.toNat)] (.int .u8 (Int.ofNat (x.toNat ||| 32))) := by
  refine A7a (n := 1) Ca (Bg2 ?_)
  unfold Acd
  show (Bool.rec False (fN (Nat.lor x.toNat 32) (fun n => _)) (Ah (Nat.ble x.toNat (intMax .u8)) (Nat.ble 32 (intMax .u8))) : Prop)
  rw [Nat.ble_eq_true_of_le (show x.toNat ≤ intMax .u8 by have := x.toNat_lt; show x.toNat ≤ 255; omega)]
  show fN (Nat.lor x.toNat 32) _
  rw [Bay]; rfl
theorem Awh : ∀ x ∈ On, 57 < x.toNat → 97 ≤ (x.toNat ||| 32) ∧ (x.toNat ||| 32) ≤ 122 ∧ Fl x = (x.toNat ||| 32) - 87 ∧ 48 ≤ x.toNat := by decide
theorem A3s : ∀ x ∈ On, 48 ≤ x.toNat ∧ x.toNat ≠ 95 ∧ Fl x < 16 := by decide
def puV (v : Nat) : AV := if v < 18446744073709551616 then .tuple [.int .u64 (Int.ofNat v), .Il] else .tuple [.int .u64 (Int.ofNat 18446744073709551615), .iface 304 (.int .i64 (Int.ofNat 1))]
abbrev M64 : Nat := 18446744073709551615
def Frame (h h' : H) : Prop := h.next.nat ≤ h'.next.nat ∧ ∀ c, c.nat < h.next.nat → h'.at c = h.at c
theorem Aou (n : Nat) : wrap .u8 (Int.ofNat n) = Int.ofNat (n % 256) := by
  rw [Ey]
  simp [IntKind.wrap, IntKind.bits, IntKind.signed]
theorem Avh {h : H} {q : P} {t : Tm} {m z n : Nat} {e : TypeId} {w ti : Bool} {l : List UInt8} (ha : h.at q = .row t m z e w) (hm : l.length ≤ m) (hc : Eu t l) {i : Nat} (hi : i < l.length) (hn : n = l.length) {K : AV → Prop} (hk : K (ub l[i])) : Cc 1 i (.slice q 0 n 1 ti) fun v' => ld1 v' h K := by
  subst hn
  show (Bool.rec Ai (fN (Nat.add 0 (Nat.mul i 1)) (fun q' => ld1 (.ptr q q') h K)) (Ah (Nat.ble (Nat.add i 1) l.length) (Nat.beq 1 1)) : Prop)
  rw [Nat.ble_eq_true_of_le (show Nat.add i 1 ≤ l.length from hi)]
  have e1 : Nat.add 0 (Nat.mul i 1) = i := by show 0 + i * 1 = i; omega
  rw [e1]
  show ld1 (.ptr q i) h K
  refine Yw ha (by omega) ?_
  rw [hc i hi]; exact hk
section
variable {B : Nat} {s s0 set : List UInt8} {q : P} {t : Tm} {h : H} {k : KV}
theorem Atd (hB : 2 ≤ B ∧ B ≤ 16) (hset : ∀ x ∈ s, x ∈ On ∧ Fl x < B) (hl : s.length ≤ 1099511627776) (ha : h.at q = .row t s.length 0 TB false) (hc : Eu t s) : ∀ (n i v : Nat), 2 * (s.length - i) + 1 ≤ n → i ≤ s.length → v ≤ M64 → k (puV (Fy B v (s.drop i))) h →
    (Om W1 k n).a1 (Int.ofNat B) false s0.length (enc s0) (Int.ofNat (M64 / B + 1)) (Int.ofNat M64) false (Int.ofNat v) (.slice q 0 s.length 1 false) (Int.ofNat s.length) (Int.ofNat i) h
  | 0, _, _, hn, _, _, _ => absurd hn (by omega)
  | n + 1, i, v, hn, hi, hv, hk => by
    refine A29 ?_
    unfold Acv
    rw [ilt]
    by_cases e : i < s.length
    · refine Bo (decide_eq_true e) ?_
      have hd : s.drop i = s[i] :: s.drop (i + 1) := List.drop_eq_getElem_cons e
      obtain ⟨hx, hdg⟩ := hset _ (List.getElem_mem e)
      obtain ⟨h48, h95, h16⟩ := A3s _ hx
      have h256 := (s[i]).toNat_lt
      have step : ∀ (h2 : h = h), (Om W1 k n).a2 (Int.ofNat B) false s0.length (enc s0) (Int.ofNat (M64 / B + 1)) (Int.ofNat M64) false (Int.ofNat v) (Int.ofNat (Fl s[i])) (.slice q 0 s.length 1 false) (Int.ofNat s.length) (Int.ofNat i) h := by
        intro _
        obtain ⟨n, rfl⟩ : ∃ n', n = n' + 1 := ⟨n - 1, by omega⟩
        refine A28 ?_
        unfold Acu
        rw [Akd (show B < 256 by omega), As, ile]
        refine Am (decide_eq_false (by omega)) ?_
        rw [ile]
        have hq := Nat.div_add_mod M64 B
        have hqm := Nat.mod_lt M64 (show 0 < B by omega)
        refine Bk (fun e1 => ?_) (fun e1 => ?_)
        · have e1 : M64 / B + 1 ≤ v := of_decide_eq_true e1
          have h1 : M64 < v * B := by
            have : (M64 / B + 1) * B ≤ v * B := Nat.mul_le_mul_right B e1
            rw [Nat.add_mul, Nat.one_mul] at this
            rw [Nat.mul_comm] at hq
            omega
          rw [hd] at hk
          have h2 : v * B + Fl s[i] ≤ Fy B v (s[i] :: s.drop (i + 1)) := Ab1 (by omega) _ _
          unfold puV at hk
          rw [if_neg (by show ¬ _ < M64 + 1; omega)] at hk
          exact hk
        · have e1 : ¬ M64 / B + 1 ≤ v := of_decide_eq_false e1
          have h1 : v * B ≤ M64 := by
            have : v * B ≤ M64 / B * B := Nat.mul_le_mul_right B (by omega)
            rw [Nat.mul_comm] at hq
            omega
          have hB64 : B < 18446744073709551616 := by omega
          rw [Ms hB64, As, show Int.ofNat v * Int.ofNat B = Int.ofNat (v * B) from rfl, Ms (show v * B < M64 + 1 by omega), As, Ms (show Fl s[i] < M64 + 1 by show _ < 18446744073709551616; omega), As, Dx, Qf, As, ilt]
          refine Fk ?_
          rw [ilt]
          refine Bk (fun e2 => ?_) (fun e2 => ?_)
          · have h3 : M64 < v * B + Fl s[i] := by
              simp only [Bool.or_eq_true, decide_eq_true_eq] at e2
              rcases e2 with e2 | e2
              · rcases Nat.lt_or_ge M64 (v * B + Fl s[i]) with h | h
                · exact h
                · rw [Nat.mod_eq_of_lt (show _ < M64 + 1 by omega)] at e2; omega
              · have := Nat.mod_lt (v * B + Fl s[i]) (show 0 < 18446744073709551616 by decide)
                have e2 : M64 < (v * B + Fl s[i]) % 18446744073709551616 := e2
                have : (v * B + Fl s[i]) % 18446744073709551616 < M64 + 1 := this
                omega
            rw [hd] at hk
            have h2 : v * B + Fl s[i] ≤ Fy B v (s[i] :: s.drop (i + 1)) := Ab1 (by omega) _ _
            unfold puV at hk
            rw [if_neg (by show ¬ _ < M64 + 1; omega)] at hk
            exact hk
          · have h3 : v * B + Fl s[i] ≤ M64 := by
              simp only [Bool.or_eq_false_iff, decide_eq_false_iff_not] at e2
              rcases Nat.lt_or_ge M64 (v * B + Fl s[i]) with h | h
              · exfalso
                have e3 : (v * B + Fl s[i]) % 18446744073709551616 = v * B + Fl s[i] - 18446744073709551616 := by
                  rw [Nat.mod_eq_sub_mod (show 18446744073709551616 ≤ v * B + Fl s[i] from h), Nat.mod_eq_of_lt (by have : v * B ≤ 18446744073709551615 := h1; omega)]
                rw [e3] at e2
                have : v * B ≤ 18446744073709551615 := h1
                omega
              · exact h
            rw [Bau (by omega), As, Nat.mod_eq_of_lt (show _ < M64 + 1 by omega)]
            refine Atd hB hset hl ha hc n (i + 1) _ (by omega) e h3 ?_
            rw [hd] at hk
            exact hk
      rw [Be]
      refine Avh ha (Nat.le_refl _) hc e rfl ?_
      rw [Bcz]
      refine Oj ?_
      refine Am (by rw [Bool.and_false]) ?_
      refine Oj ?_
      rw [ile, ile]
      by_cases e1 : (s[i]).toNat ≤ 57
      · refine Bo (by rw [decide_eq_true h48, decide_eq_true e1]; rfl) ?_
        rw [Al2 h48, Akd (by omega), As]
        have : (s[i]).toNat - 48 = Fl s[i] := by unfold Fl; rw [if_pos e1]
        rw [this]
        exact step rfl
      · refine Am (by rw [decide_eq_false e1, Bool.and_false]) ?_
        obtain ⟨g1, g2, g3, _⟩ := Awh _ hx (by omega)
        refine Ek (A6c s[i]) ?_
        rw [Ar, ile]
        refine Ip (b := true) (fun k' hk' => ?_) ?_
        · refine Ek (A6c s[i]) ?_
          rw [Ar, ile, decide_eq_true g2]; exact hk'
        refine Bo (by rw [decide_eq_true g1]; rfl) ?_
        refine Ek (A6c s[i]) ?_
        rw [Ar, Al2 g1, Akd (by omega), As, Dx, Akd (by omega), As]
        rw [show ((s[i]).toNat ||| 32) - 97 + 10 = Fl s[i] by rw [g3]; omega]
        exact step rfl
    · refine Am (decide_eq_false e) ?_
      have hd : s.drop i = [] := by rw [List.drop_eq_nil_iff]; omega
      rw [hd] at hk
      have hk : k (puV v) h := hk
      unfold puV at hk
      rw [if_pos (show v < M64 + 1 by omega)] at hk
      refine Lp (fun e => by cases e) (fun _ => ?_)
      exact Am rfl hk
end
theorem cv9 (l c : Nat) (h : H) : Ie env h 9 115 (.str l c) = some (.slice h.next 0 l 1 false, h.new (.row (Aq (byteCells l c) 0 .e) l 0 TB false)) := by kernel_rfl
theorem Abp : ∀ l : List UInt8, byteCells l.length (enc l) = ubs l
  | [] => rfl
  | x :: l => by
    obtain ⟨h1, h2⟩ := Qt x l
    show (.int .u8 (.ofNat (Nat.mod (enc (x :: l)) 256)) :: byteCells l.length (Nat.div (enc (x :: l)) 256) : List AV) = _
    rw [h1, h2, Abp l]; rfl
theorem A8z {K : Int → Prop} : Ain .u64 (Int.ofNat 1) (Int.ofNat 64) K = K (Int.ofNat 0) := by
  have e : wrap .u64 (Int.ofNat 1 * 2 ^ (min 64 (IntKind.bits .u64))) = Int.ofNat 0 := by kernel_rfl
  show fI (wrap .u64 (Int.ofNat 1 * 2 ^ (min 64 (IntKind.bits .u64)))) K = _
  rw [e, As]
theorem A85 {K : Int → Prop} : Sf .u64 (Int.ofNat 18446744073709551615) (Int.ofNat 8) K = K (Int.ofNat (M64 / 8)) := by
  have e : wrap .u64 ((Int.ofNat 18446744073709551615).tdiv (Int.ofNat 8)) = Int.ofNat (M64 / 8) := by kernel_rfl
  show fI (wrap .u64 ((Int.ofNat 18446744073709551615).tdiv (Int.ofNat 8))) K = _
  rw [e, As]
theorem Biz {B : Nat} {s : List UInt8} {h : H} {k : KV} (hB : B = 8 ∨ B = 10 ∨ B = 16) (hne : s ≠ []) (hset : ∀ x ∈ s, x ∈ On ∧ Fl x < B) (hl : s.length ≤ 1099511627776) (hk : ∀ h', Frame h h' → k (puV (Fy B 0 s)) h') : W1 (.func 173) [S s, .int .i64 (Int.ofNat B), .int .i64 (Int.ofNat 64)] h k := by
  refine A7k (n := 2 * s.length + 20) Ca (Bhc ?_)
  unfold Acw
  have e0 : Bm s.length (enc s) 0 0 = false := by rw [Ko]; exact decide_eq_false hne
  refine Am e0 ?_
  refine Oj ?_
  have hB2 : 2 ≤ B ∧ B ≤ 16 := by omega
  refine Bo (by rw [ile, ile, decide_eq_true (show 2 ≤ B by omega), decide_eq_true (show B ≤ 36 by omega)]; rfl) ?_
  rw [Nl, decide_eq_false (show ¬ B = 0 by omega)]
  refine A25 ?_
  unfold Acq
  refine Am rfl ?_
  refine Fk ?_
  refine Am rfl ?_
  refine A26 ?_
  unfold Acr
  have main : ∀ n, 2 * s.length + 2 ≤ n → (Om W1 k n).a3 s.length (enc s) (Int.ofNat B) (Int.ofNat 64) false s.length (enc s) (Int.ofNat (M64 / B + 1)) h := by
    intro n hn
    obtain ⟨n, rfl⟩ : ∃ n', n = n' + 1 := ⟨n - 1, by omega⟩
    refine A27 ?_
    unfold Acs
    rw [show wrap .u64 (Int.ofNat 64) = Int.ofNat 64 by kernel_rfl, As]
    rw [A8z, show wrap .u64 (Kv (Int.ofNat 0) (Int.ofNat 1)) = Int.ofNat M64 by kernel_rfl, As, cv9, Ag, Nh, Abp]
    refine Atd hB2 hset hl (Cm _ _) (Eu.new s .e) n 0 0 (by omega) (Nat.zero_le _) (Nat.zero_le _) ?_
    rw [List.drop_zero]
    exact hk _ ⟨by rw [Bq]; omega, fun c hc => Gl hc⟩
  rcases hB with rfl | rfl | rfl
  · refine Am rfl ?_
    refine Am rfl ?_
    rw [show wrap .u64 (Int.ofNat 8) = Int.ofNat 8 by kernel_rfl, As]
    rw [A85, show wrap .u64 (Cf (Int.ofNat (M64 / 8)) (Int.ofNat 1)) = Int.ofNat (M64 / 8 + 1) by kernel_rfl, As]
    exact main _ (by omega)
  · refine Bo rfl ?_
    exact main _ (by omega)
  · refine Am rfl ?_
    refine Bo rfl ?_
    exact main _ (by omega)
theorem Aqw (t : TypeId) (v : AV) : Hi env .neq 151 (.iface t v) .Il = some (.bool true) := by kernel_rfl
theorem Aqv : Hi env .neq 151 .Il .Il = some (.bool false) := by kernel_rfl
theorem Bja {B : Nat} {s : List UInt8} {h : H} {k : KV} (he : Jk h) (hB : B = 8 ∨ B = 10 ∨ B = 16) (hne : s ≠ []) (hset : ∀ x ∈ s, x ∈ On ∧ Fl x < B) (hl : s.length ≤ 1099511627776)
    (hk1 : Fy B 0 s < 18446744073709551616 → ∀ h', Frame h h' → k (.tuple [.int .u64 (Int.ofNat (Fy B 0 s)), .Il]) h') (hk2 : ¬ Fy B 0 s < 18446744073709551616 → ∀ h' p, Frame h h' → k (.tuple [.int .u64 (Int.ofNat 18446744073709551615), .iface 306 (.ptr p 0)]) h') : W1 (.func 117) [S s, .int .i64 (Int.ofNat B), .int .i64 (Int.ofNat 64)] h k := by
  refine A71 (n := 1) Ca (Bht ?_)
  unfold Ado
  refine Biz hB hne hset hl fun h' hf => ?_
  unfold puV
  by_cases e : Fy B 0 s < 18446744073709551616
  · rw [if_pos e, Ic, Ar, Ib, Aqv, Db, Ay]
    refine Am rfl ?_
    exact hk1 e h' hf
  · rw [if_neg e, Ic, Ar, Ib, Aqw, Db, Ay]
    refine Bo rfl ?_
    refine Biy (fn := [80, 97, 114, 115, 101, 85, 105, 110, 116]) ?_
    refine Bio (he.keep hf.1 hf.2) hl fun h2 p hn2 hf2 => ⟨p, rfl, ?_⟩
    exact hk2 e h2 p ⟨Nat.le_trans hf.1 hn2, fun c hc => by rw [hf2 c (Nat.lt_of_lt_of_le hc hf.1), hf.2 c hc]⟩
end Go.Den
namespace Go.Den
open Go.RowKit
set_option maxRecDepth 100000
def Ux (r : List UInt8) : Bool := decide (r = []) || decide (r = [108]) || decide (r = [76]) || decide (r = [108, 108]) || decide (r = [76, 76])
def Za (c : UInt8) : Bool := decide (c = 117) || decide (c = 85)
def Yx (s : List UInt8) : Bool := match s.getLast? with
  | some c => Za c
  | none => false
def Sw (s : List UInt8) : Bool × Bool := match s with
  | [] => (false, true)
  | c :: t => if Za c then (true, Ux t) else if Yx (c :: t) then (true, Ux (c :: t).dropLast) else (false, Ux (c :: t))
theorem Bh9 (s : List UInt8) : Bm s.length (enc s) 2 27756 = decide (s = [108, 108]) := En (t := [108, 108])
theorem Bia (s : List UInt8) : Bm s.length (enc s) 2 19532 = decide (s = [76, 76]) := En (t := [76, 76])
theorem Ae9 {r : List UInt8} {u : Bool} {h : H} {k : KV} {n : Nat} (hk : k (.tuple [.bool u, .bool (Ux r)]) h) : (Agg W1 k (n + 1)).a1 r.length (enc r) u h := by
  refine A3k ?_
  unfold Adr
  refine Fk ?_
  refine Fk ?_
  refine Fk ?_
  refine Fk ?_
  rw [Ko, Ba4, Bib, Bh9, Bia]
  exact hk
theorem Bjb (s : List UInt8) (hl : s.length ≤ 1099511627776) : Pure PP G h0 113 [S s] (.tuple [.bool (Sw s).1, .bool (Sw s).2]) := by
  refine A75 (n := 2) Ca (Bhx ?_)
  unfold Ads
  cases s with
  | nil =>
    refine Bo rfl ?_
    exact Ae9 (r := []) rfl
  | cons c t =>
    refine Am (Aik c t) ?_
    refine Iv (s := c :: t) (Nat.zero_lt_succ _) ?_
    refine Te (b := decide (c = 85)) (fun k' hk' => ?_) ?_
    · refine Iv (s := c :: t) (Nat.zero_lt_succ _) ?_
      rw [List.getElem_cons_zero, toNat_eq _ 85 (by decide)]; exact hk'
    rw [List.getElem_cons_zero, toNat_eq _ 117 (by decide)]
    refine Bk (fun e => ?_) (fun e => ?_)
    · have e : Za c = true := e
      refine Aey (s := c :: t) (Nat.le_add_left 1 _) ?_
      refine Ae9 (r := t) ?_
      show AV.tuple _ = AV.tuple _
      have : Sw (c :: t) = (true, Ux t) := if_pos e
      rw [this]
    · have e : ¬ Za c = true := fun h => by rw [show Za c = false from e] at h; cases h
      have h1 : 1 ≤ (c :: t).length := Nat.le_add_left 1 _
      have h2 : (c :: t).length - 1 < (c :: t).length := by omega
      have hlast : (c :: t).getLast? = some ((c :: t)[(c :: t).length - 1]) := by rw [List.getLast?_eq_getElem?, List.getElem?_eq_getElem h2]
      have hlu : Yx (c :: t) = Za ((c :: t)[(c :: t).length - 1]) := by unfold Yx; rw [hlast]
      rw [Bat h1 (by omega), As, Be]
      refine Iv h2 ?_
      refine Te (b := decide ((c :: t)[(c :: t).length - 1] = 85)) (fun k' hk' => ?_) ?_
      · rw [As, Be]
        refine Iv h2 ?_
        rw [toNat_eq _ 85 (by decide)]; exact hk'
      rw [toNat_eq _ 117 (by decide)]
      refine Bk (fun e2 => ?_) (fun e2 => ?_)
      · have e2 : Za ((c :: t)[(c :: t).length - 1]) = true := e2
        rw [As, Be]
        refine Ajk (by omega) ?_
        refine Ae9 ?_
        show AV.tuple _ = AV.tuple _
        have : Sw (c :: t) = (true, Ux (c :: t).dropLast) := by
          show (if Za c then (true, Ux t) else if Yx (c :: t) then (true, Ux (c :: t).dropLast) else (false, Ux (c :: t))) = _
          rw [if_neg e, hlu, if_pos e2]
        rw [this, List.dropLast_eq_take]
      · have e2 : ¬ Za ((c :: t)[(c :: t).length - 1]) = true := fun h => by rw [show Za ((c :: t)[(c :: t).length - 1]) = false from e2] at h; cases h
        refine Ae9 ?_
        show AV.tuple _ = AV.tuple _
        have : Sw (c :: t) = (false, Ux (c :: t)) := by
          show (if Za c then (true, Ux t) else if Yx (c :: t) then (true, Ux (c :: t).dropLast) else (false, Ux (c :: t))) = _
          rw [if_neg e, hlu, if_neg e2]
        rw [this]
def Wb (u ok : Bool) (B : Nat) (set dd : List UInt8) : Option (Nat × Bool) :=
  if (!ok || decide (dd = []) || !decide (Sc dd set = dd.length)) = true then none else if Fy B 0 dd < 18446744073709551616 then some (Fy B 0 dd, u || decide (9223372036854775807 < Fy B 0 dd)) else none
def Pe (s : List UInt8) : Option (Nat × Bool) :=
  if Nn (Dw s Hf) = true then Wb (Sw (s.drop (Dw s Hf).length)).1 (Sw (s.drop (Dw s Hf).length)).2 16 On ((Dw s Hf).drop 2)
  else if (Dw s Hf).take 1 = [48] then Wb (Sw (s.drop (Dw s Hf).length)).1 (Sw (s.drop (Dw s Hf).length)).2 8 Aql (Dw s Hf)
  else Wb (Sw (s.drop (Dw s Hf).length)).1 (Sw (s.drop (Dw s Hf).length)).2 10 Lb (Dw s Hf)
def Ad2 (o : Option (Nat × Bool)) : AV := match o with
  | some p => .tuple [.agg [.int .u64 (Int.ofNat p.1), .bool p.2], .bool true]
  | none => A95
theorem Aiv (o : Option (Nat × Bool)) : plain (Ad2 o) = true := by cases o <;> rfl
theorem Ajs {p : P} {h : H} {t : Tm} {u ok : Bool} {B n : Nat} {set dd : List UInt8} {k : KV} (he : Jk h) (ha : h.at p = .row t 2 0 55 true) (hp : p.nat < h.next.nat) (hs : Vm set) (h2 : 2 ≤ set.length) (hset : ∀ x ∈ set, x ∈ On ∧ Fl x < B) (hB : B = 8 ∨ B = 10 ∨ B = 16) (hl : dd.length ≤ 1099511627776)
    (hk : ∀ h', k (Ad2 (Wb u ok B set dd)) h') : (r64 W1 k (n + 1)).a1 (.ptr p 0) dd.length (enc dd) u ok (Int.ofNat B) set.length (enc set) h := by
  refine Bag ?_
  unfold Akw
  have bad : Wb u ok B set dd = none → ∀ h : H, h.at p = .row t 2 0 55 true → (oK (Bt env (env.ty 55) [] h) fun v32 h33 =>
      stn 2 (.ptr p 0) v32 h33 fun h34 =>
      ldn 2 (.ptr p 0) h34 fun v35 =>
      k (.tuple [v35, (.bool false)]) h34) := by
    intro e h ha
    rw [b25, Ag]
    refine Xr ha (Nat.le_refl _) rfl (by decide) (by decide) ?_
    refine Al1 (Du _ _ _) (by decide) ?_
    rw [gc2]
    have := hk (h.put p (.row (Aq [.int .u64 (Int.ofNat 0), .bool false] 0 t) 2 0 55 true))
    rw [e] at this
    exact this
  refine Fk ?_
  rw [Ko, Bv]
  refine Te (b := !decide (Sc dd set = dd.length)) (fun k' hk' => ?_) ?_
  · refine Ek (A6j hs h2 dd (by omega)) ?_
    rw [Ar, Nl, Bv]; exact hk'
  refine Bk (fun e => ?_) (fun e => ?_)
  · exact bad (if_pos e) h ha
  · have en : Wb u ok B set dd = if Fy B 0 dd < 18446744073709551616 then some (Fy B 0 dd, u || decide (9223372036854775807 < Fy B 0 dd)) else none := if_neg (by rw [e]; simp)
    simp only [Bool.or_eq_false_iff, Bool.not_eq_false', decide_eq_true_eq, decide_eq_false_iff_not] at e
    obtain ⟨⟨_, e1⟩, e2⟩ := e
    have hall : ∀ x ∈ dd, x ∈ On ∧ Fl x < B := fun x hx => hset x (Avf (s := dd) (set := set) (n := dd.length) (by omega) (by rw [List.take_length]; exact hx))
    refine Bja he hB e1 hall hl (fun hv h' hf => ?_) (fun hv h' q hf => ?_)
    · rw [if_pos hv] at en
      have ha' : h'.at p = .row t 2 0 55 true := by rw [hf.2 p hp]; exact ha
      rw [Ic, Ar, Ib, Aqv, Db, Ay]
      refine Am rfl ?_
      refine Fk ?_
      rw [ilt, Bcv, Ag]
      refine Xr ha' (Nat.le_refl _) rfl (by decide) (by decide) ?_
      refine Al1 (Du _ _ _) (by decide) ?_
      rw [gc2]
      have := hk (h'.put p (.row (Aq [.int .u64 (Int.ofNat (Fy B 0 dd)), .bool (u || decide (9223372036854775807 < Fy B 0 dd))] 0 t) 2 0 55 true))
      rw [en] at this
      exact this
    · rw [if_neg hv] at en
      have ha' : h'.at p = .row t 2 0 55 true := by rw [hf.2 p hp]; exact ha
      rw [Ic, Ar, Ib, Aqw, Db, Ay]
      refine Bo rfl ?_
      exact bad en h' ha'
theorem Ape (s set : List UInt8) : (Dw s set).length ≤ s.length := by
  unfold Dw
  rw [List.length_reverse]
  have := (List.dropWhile_sublist (l := s.reverse) (· ∈ set)).length_le
  rw [List.length_reverse] at this; exact this
theorem Au8 : ∀ x ∈ On, x ∈ On ∧ Fl x < 16 := by decide
theorem Au7 : ∀ x ∈ Aql, x ∈ On ∧ Fl x < 8 := by decide
theorem Au9 : ∀ x ∈ Lb, x ∈ On ∧ Fl x < 10 := by decide
theorem c64 (s : List UInt8) (hl : s.length ≤ 1099511627776) : Pure PP G h1 64 [S s] (Ad2 (Pe s)) := by
  refine w64 (n := 2) Ca (g64 ?_)
  unfold Akx
  refine Dk ?_
  have he : Jk (h1.new Dd) := No.new
  have ha : (h1.new Dd).at h1.next = .row (Aq [.int .u64 (Int.ofNat 0), .bool false] 0 .e) 2 0 55 true := Cm _ _
  have hp : h1.next.nat < (h1.new Dd).next.nat := by rw [Bq]; omega
  refine Ek (Bjc A0p (by decide) s (by omega)) ?_
  rw [Di]
  have hd := Ape s Hf
  refine Aey hd ?_
  refine Ek (Bjb (s.drop (Dw s Hf).length) (by rw [List.length_drop]; omega)) ?_
  rw [Ic, Ay, Ib, Ay]
  refine Ek (A6l (Dw s Hf)) ?_
  rw [Ay]
  refine Bk (fun e => ?_) (fun e => ?_)
  · have h2 : 2 ≤ (Dw s Hf).length := by
      have e := e
      unfold Nn at e
      rw [Bool.or_eq_true, decide_eq_true_eq, decide_eq_true_eq] at e
      rcases e with e | e <;> (have := congrArg List.length e; simp [hx1, hx2] at this; omega)
    refine Aey h2 ?_
    refine Ajs (B := 16) (set := On) he ha hp A3r (by decide) Au8 (by decide) (by rw [List.length_drop]; omega) fun h' => ?_
    show Ad2 _ = Ad2 _
    unfold Pe; rw [if_pos e]
  · have e : ¬ Nn (Dw s Hf) = true := by rw [e]; simp
    refine Ek (A6k (Dw s Hf) [48]) ?_
    rw [Ay]
    refine Bk (fun e2 => ?_) (fun e2 => ?_)
    · have e2 : (Dw s Hf).take 1 = [48] := of_decide_eq_true e2
      refine Ajs (B := 8) (set := Aql) he ha hp A2k (by decide) Au7 (by decide) (by omega) fun h' => ?_
      show Ad2 _ = Ad2 _
      unfold Pe; rw [if_neg e, if_pos e2]
    · have e2 : ¬ (Dw s Hf).take 1 = [48] := of_decide_eq_false e2
      refine Ajs (B := 10) (set := Lb) he ha hp A55 (by decide) Au9 (by decide) (by omega) fun h' => ?_
      show Ad2 _ = Ad2 _
      unfold Pe; rw [if_neg e, if_neg e2]
end Go.Den
