/-
  A part of the proof: PF4, PF5, PF6, PF7.
-/
import Derived.Test.YtdpnnajfmkpfjaaDoorStrs
namespace Go.Den
open Go.RowKit
set_option maxRecDepth 100000
theorem joinB_or {a b : Bool} {h : H} {k : Bool → H → Prop} : joinB (fun k1 => gate false a (k1 b h) (k1 true h)) k = k (a || b) h := by
  cases a <;> rfl
theorem joinB_and {a b : Bool} {h : H} {k : Bool → H → Prop} : joinB (fun k1 => gate true a (k1 b h) (k1 false h)) k = k (a && b) h := by
  cases a <;> rfl
def tailL (r : List UInt8) : Bool := decide (r = []) || decide (r = [102]) || decide (r = [70]) || decide (r = [108]) || decide (r = [76])
def finL (some L : List UInt8) (n : Nat) (point : Bool) (r : List UInt8) : Bool :=
  if decide (n = 0) || (!(expL r L).2 && (!point || decide (some = hexL))) then false else tailL (expL r L).1
def floatR (some L rest : List UInt8) : Bool :=
  if (rest.drop (runL rest some)).take 1 = [46] then finL some L (runL rest some + runL ((rest.drop (runL rest some)).drop 1) some) true ((rest.drop (runL rest some)).drop (1 + runL ((rest.drop (runL rest some)).drop 1) some))
  else finL some L (runL rest some) false (rest.drop (runL rest some))
def eL : List UInt8 := [101, 69]
def pL : List UInt8 := [112, 80]
def floatL (s : List UInt8) : Bool := if hexedL s then floatR hexL pL (s.drop 2) else floatR decL eL s
theorem eq102 (s : List UInt8) : strEq s.length (enc s) 1 102 = decide (s = [102]) := strEq_enc (t := [102])
theorem eq70 (s : List UInt8) : strEq s.length (enc s) 1 70 = decide (s = [70]) := strEq_enc (t := [70])
theorem eq108 (s : List UInt8) : strEq s.length (enc s) 1 108 = decide (s = [108]) := strEq_enc (t := [108])
theorem eq76 (s : List UInt8) : strEq s.length (enc s) 1 76 = decide (s = [76]) := strEq_enc (t := [76])
theorem eqHex (s : List UInt8) : strEq s.length (enc s) 22 26291342665239622251265189840170011249128153612955952 = decide (s = hexL) := strEq_enc (t := hexL)
theorem eqN (n : Nat) : ibeq (Int.ofNat n) (Int.ofNat 0) = decide (n = 0) := by
  rw [ibeq_eq, Bool.eq_iff_iff, beq_iff_eq, decide_eq_true_eq]
  exact ⟨fun h => Int.ofNat.inj h, fun h => by rw [h]⟩
theorem c16_1 {some L r : List UInt8} {n m : Nat} {point : Bool} {k : KV} (hl : r.length ≤ 4611686018427387904) (hk : k (.bool (finL some L n point r)) h0) :
    (r16 W1 k (m + 1)).a1 some.length (enc some) L.length (enc L) r.length (enc r) (Int.ofNat n) point h0 := by
  refine j16_1 ?_
  unfold s16_1
  refine use2 (c35 r L hl) ?_
  rw [ext_0, asS_s, ext_1, asB_b]
  simp only [joinB_or, joinB_and]
  rw [eqN, bnot_eq, bnot_eq, eqHex, strEq_nil, eq102, eq70, eq108, eq76]
  unfold finL at hk
  refine cnd_i (fun e => ?_) (fun e => ?_)
  · rw [if_pos e] at hk; exact hk
  · rw [if_neg (by rw [e]; simp)] at hk; exact hk
theorem c16_2 {some L s : List UInt8} {m : Nat} {k : KV} (hs : okSet some) (h2 : 2 ≤ some.length) (hl : s.length ≤ 2305843009213693952) (hk : k (.bool (floatR some L s)) h0) :
    (r16 W1 k (m + 2)).a2 some.length (enc some) L.length (enc L) s.length (enc s) h0 := by
  refine j16_2 ?_
  unfold s16_2
  refine use2 (c24 hs h2 s (by omega)) ?_
  rw [asI_k, natI_eq]
  have hr := runL_le s some
  refine cutS_d hr ?_
  refine use2 (c23 (s.drop (runL s some)) [46]) ?_
  rw [asB_b]
  unfold floatR at hk
  have hd : (s.drop (runL s some)).length ≤ s.length := by rw [List.length_drop]; omega
  refine cnd_i (fun e => ?_) (fun e => ?_)
  · have e0 := e
    have e : (s.drop (runL s some)).take 1 = [46] := of_decide_eq_true e
    rw [if_pos e] at hk
    have h1 : 1 ≤ (s.drop (runL s some)).length := by
      have := congrArg List.length e
      simp at this; simp; omega
    refine cutS_d h1 ?_
    have hd1 : ((s.drop (runL s some)).drop 1).length ≤ s.length := by rw [List.length_drop]; omega
    refine use2 (c24 hs h2 ((s.drop (runL s some)).drop 1) (by omega)) ?_
    have hr1 := runL_le ((s.drop (runL s some)).drop 1) some
    rw [asI_k, fI_eq, iadd_eq, fI_eq, iadd_eq]
    have w1 : wrap .i64 (Int.ofNat (runL s some) + Int.ofNat (runL ((s.drop (runL s some)).drop 1) some)) = Int.ofNat (runL s some + runL ((s.drop (runL s some)).drop 1) some) := wrap64 (by show _ ≤ ((_ : Nat) : Int) + ((_ : Nat) : Int); omega) (by show ((_ : Nat) : Int) + ((_ : Nat) : Int) ≤ _; omega)
    have w2 : wrap .i64 (Int.ofNat 1 + Int.ofNat (runL ((s.drop (runL s some)).drop 1) some)) = Int.ofNat (1 + runL ((s.drop (runL s some)).drop 1) some) := wrap64 (by show _ ≤ ((1 : Nat) : Int) + ((_ : Nat) : Int); omega) (by show ((1 : Nat) : Int) + ((_ : Nat) : Int) ≤ _; omega)
    rw [w1, w2, natI_eq]
    refine cutS_d (by have := List.length_drop (i := 1) (l := s.drop (runL s some)); omega) ?_
    refine c16_1 (by rw [List.length_drop]; omega) (by rw [e0]; exact hk)
  · have e0 := e
    have e : ¬ (s.drop (runL s some)).take 1 = [46] := of_decide_eq_false e
    rw [if_neg e] at hk
    exact c16_1 (by omega) (by rw [e0]; exact hk)
theorem c16 (s : List UInt8) (hl : s.length ≤ 2305843009213693952) : Pure PP G h0 16 [S s] (.bool (floatL s)) := by
  refine w16 (n := 3) sw_ok (g16 ?_)
  unfold s16_0
  refine use2 (c22 s) ?_
  rw [asB_b]
  refine cnd_i (fun e => ?_) (fun e => ?_)
  · have h2 : 2 ≤ s.length := by
      unfold hexedL at e
      rw [Bool.or_eq_true, decide_eq_true_eq, decide_eq_true_eq] at e
      rcases e with e | e <;> (have := congrArg List.length e; simp [hx1, hx2] at this; omega)
    refine cutS_d h2 ?_
    refine c16_2 (some := hexL) (L := pL) hex_ok (by decide) (by rw [List.length_drop]; omega) ?_
    show AV.bool _ = _
    unfold floatL; rw [if_pos e]
  · refine c16_2 (some := decL) (L := eL) dec_ok (by decide) hl ?_
    show AV.bool _ = _
    unfold floatL; rw [if_neg (by rw [e]; simp)]
/-- decimal digits, or nothing -/
def digitsL (s : List UInt8) : Bool := s.all fun b => decide (48 ≤ b.toNat) && decide (b.toNat ≤ 57)
theorem c19_1 {k : KV} (s : List UInt8) (hl : s.length ≤ 4611686018427387904) : ∀ (i n : Nat), s.length - i < n → i ≤ s.length → k (.bool (digitsL (s.drop i))) h0 → (r19 W1 k n).a1 s.length (enc s) (Int.ofNat i) h0
  | i, 0, hn, _, _ => absurd hn (Nat.not_lt_zero _)
  | i, n + 1, hn, hi, hk => by
    refine j19_1 ?_
    unfold s19_1
    rw [iblt_eq]
    refine cnd_i (fun e => ?_) (fun e => ?_)
    · have e : i < s.length := Int.ofNat_lt.1 (of_decide_eq_true e)
      rw [natI_eq]
      refine idxS_i e ?_
      rw [iblt_eq]
      have hd : s.drop i = s[i] :: s.drop (i + 1) := List.drop_eq_getElem_cons e
      have fin : ∀ b : Bool, b = !(decide (48 ≤ (s[i]).toNat) && decide ((s[i]).toNat ≤ 57)) → cnd b (k (.bool false) h0) (fI (wrap .i64 (iadd (Int.ofNat i) (Int.ofNat 1))) fun n8 => (r19 W1 k n).a1 s.length (enc s) n8 h0) := by
        intro b hb
        refine cnd_i (fun e' => ?_) (fun e' => ?_)
        · rw [e'] at hb
          have : digitsL (s.drop i) = false := by rw [hd]; unfold digitsL; rw [List.all_cons]; simp at hb; simp; omega
          rw [this] at hk; exact hk
        · rw [e'] at hb
          have hb : (decide (48 ≤ (s[i]).toNat) && decide ((s[i]).toNat ≤ 57)) = true := by simpa using hb.symm
          have : digitsL (s.drop i) = digitsL (s.drop (i + 1)) := by rw [hd]; unfold digitsL; rw [List.all_cons, hb]; simp
          rw [this] at hk
          rw [fI_eq, iadd_eq]
          have w1 : wrap .i64 (Int.ofNat i + Int.ofNat 1) = Int.ofNat (i + 1) := wrap64 (by show _ ≤ ((i : Nat) : Int) + ((1 : Nat) : Int); omega) (by show ((i : Nat) : Int) + ((1 : Nat) : Int) ≤ _; omega)
          rw [w1]
          exact c19_1 s hl (i + 1) n (by omega) e hk
      refine or_i (fun e' => ?_) (fun e' => ?_)
      · rw [natI_eq]
        refine idxS_i e ?_
        rw [iblt_eq]
        have e' : ¬ ((s[i]).toNat : Int) < (48 : Nat) := of_decide_eq_false e'
        refine fin _ ?_
        have : (48 ≤ (s[i]).toNat) := by omega
        rw [decide_eq_true this, Bool.true_and, Bool.eq_iff_iff]
        simp
        show ((57 : Nat) : Int) < ((s[i]).toNat : Int) ↔ _
        omega
      · have e' : ((s[i]).toNat : Int) < (48 : Nat) := of_decide_eq_true e'
        refine fin _ ?_
        have : ¬ (48 ≤ (s[i]).toNat) := by omega
        rw [decide_eq_false this]; rfl
    · have e : ¬ i < s.length := fun h => (of_decide_eq_false e) (Int.ofNat_lt.2 h)
      have : s.drop i = [] := by rw [List.drop_eq_nil_iff]; omega
      rw [this] at hk; exact hk
theorem c19 (s : List UInt8) (hl : s.length ≤ 4611686018427387904) : Pure PP G h0 19 [S s] (.bool (digitsL s)) := by
  refine w19 (n := s.length + 2) sw_ok (g19 ?_)
  unfold s19_0
  exact c19_1 s hl 0 _ (by omega) (Nat.zero_le _) rfl
end Go.Den
namespace Go.Den
open Go.RowKit
set_option maxRecDepth 100000
theorem tmod_range (n : Int) {m : Nat} (hm : 0 < m) : -(m : Int) < n.tmod m ∧ n.tmod m < m := by
  constructor
  · have := Int.lt_tmod_of_pos n (show (0 : Int) < m by omega)
    exact this
  · exact Int.tmod_lt_of_pos n (show (0 : Int) < m by omega)
theorem c18 (n : Int) {m : Nat} (hm : 0 < m) (hb : m ≤ 1000000) : ∃ r, r < m ∧ Pure PP G h0 18 [.int .i64 n, .int .i64 (Int.ofNat m)] (.int .i64 (Int.ofNat r)) := by
  obtain ⟨h1, h2⟩ := tmod_range n hm
  have h3 : 0 ≤ (n.tmod m + m).tmod m := Int.tmod_nonneg _ (by omega)
  have h4 := (tmod_range (n.tmod m + m) hm).2
  refine ⟨((n.tmod m + m).tmod m).toNat, by omega, ?_⟩
  refine w18 (n := 1) sw_ok (g18 ?_)
  unfold s18_0
  have e0 : ibeq (Int.ofNat m) (Int.ofNat 0) = false := by rw [eqN, decide_eq_false (by omega)]
  unfold remI
  rw [e0]
  show fI (n.tmod (m : Int)) _
  rw [fI_eq, iadd_eq, fI_eq]
  have w1 : wrap .i64 (n.tmod (m : Int) + Int.ofNat m) = n.tmod m + m := wrap64 (by show _ ≤ n.tmod (m : Int) + (m : Int); omega) (by show n.tmod (m : Int) + (m : Int) ≤ _; omega)
  rw [w1]
  show fI ((n.tmod m + m).tmod (m : Int)) _
  rw [fI_eq]
  show AV.int _ _ = AV.int _ _
  congr 1
  show _ = ((((n.tmod m + m).tmod m).toNat : Nat) : Int)
  omega
/-- a text without its last bytes that are in a set -/
def rtrim (s set : List UInt8) : List UInt8 := (s.reverse.dropWhile (· ∈ set)).reverse
theorem rtrim_snoc (s set : List UInt8) (x : UInt8) : rtrim (s ++ [x]) set = if x ∈ set then rtrim s set else s ++ [x] := by
  unfold rtrim
  rw [List.reverse_append, List.reverse_singleton, List.singleton_append, List.dropWhile_cons]
  by_cases h : x ∈ set <;> simp [h]
theorem c39_1 {h : H} {b : P} {t : Tm} {z : Nat} {e : TypeId} {w : Bool} {set : List UInt8} (ha : h.at b = .row t 256 z e w) (ht : ∀ x : UInt8, tget t x.toNat = .bool (decide (x ∈ set))) {k : KV} :
    ∀ (n : Nat) (s : List UInt8), s.length ≤ 4611686018427387904 → s.length < n → k (S (rtrim s set)) h → (r39 W1 k n).a1 s.length (enc s) (.ptr b 0) h
  | 0, _, _, hn, _ => absurd hn (Nat.not_lt_zero _)
  | n + 1, s, hl, hn, hk => by
    refine j39_1 ?_
    unfold s39_1
    rcases List.eq_nil_or_concat s with rfl | ⟨r, x, rfl⟩
    · exact cnd_f rfl hk
    · rw [List.concat_eq_append] at hl hn hk ⊢
      have hlen : (r ++ [x]).length = r.length + 1 := by simp
      refine cnd_t (by rw [iblt_eq]; simp) ?_
      rw [isub_eq]
      have w1 : wrap .i64 (Int.ofNat (r ++ [x]).length - Int.ofNat 1) = Int.ofNat r.length := by
        rw [hlen]
        have : Int.ofNat (r.length + 1) - Int.ofNat 1 = Int.ofNat r.length := by show ((r.length + 1 : Nat) : Int) - ((1 : Nat) : Int) = (r.length : Int); omega
        rw [this, wrap64 (by show _ ≤ ((r.length : Nat) : Int); omega) (by show ((r.length : Nat) : Int) ≤ _; omega)]
      rw [fI_eq, w1, natI_eq]
      refine idxS_i (by rw [hlen]; omega) ?_
      have hx : (r ++ [x])[r.length]'(by rw [hlen]; omega) = x := by simp
      rw [hx]
      refine c51 ha (ht x) ?_
      rw [asB_b, bnot_eq]
      rw [rtrim_snoc] at hk
      refine cnd_i (fun e => ?_) (fun e => ?_)
      · have e : ¬ x ∈ set := by simpa using e
        rw [if_neg e] at hk; exact hk
      · have e : x ∈ set := by simpa using e
        rw [if_pos e] at hk
        rw [fI_eq, natI_eq]
        refine cutS_t (by rw [hlen]; omega) ?_
        have ht' : (r ++ [x]).take r.length = r := by simp
        rw [ht']
        exact c39_1 ha ht n r (by omega) (by omega) hk
theorem c20 {set : List UInt8} (hs : okSet set) (h2 : 2 ≤ set.length) (s : List UInt8) (hl : s.length ≤ 4611686018427387904) : Pure PP G h0 20 [S s, S set] (S (rtrim s set)) := by
  refine w20 (n := 1) sw_ok (g20 ?_)
  unfold s20_0
  have e0 : strEq set.length (enc set) 0 0 = false := strEq_ne (t := []) (fun h => by subst h; simp at h2)
  rw [e0]
  have e1 : strEq s.length (enc s) 0 0 = decide (s = []) := strEq_enc (t := [])
  rw [e1]
  refine or_b ?_
  refine cnd_i (fun e => ?_) (fun e => ?_)
  · have e : s = [] := by simpa using e
    subst e; rfl
  · refine and_i (fun e => ?_) (fun _ => ?_)
    · rw [ibeq_eq, beq_iff_eq] at e
      have : set.length = 1 := by have := Int.ofNat.inj e; exact this
      omega
    · refine cnd_f rfl ?_
      refine use2 hs ?_
      rw [ext_0, ext_1, asB_b]
      refine newK_i ?_
      refine new_fill (zs := List.replicate 256 (.bool false)) (by simp) (tbl_len _) (by omega) ?_
      intro h' ha
      refine cnd_t rfl ?_
      refine w39 (n := s.length + 2) sw_ok (g39 ?_)
      unfold s39_0
      refine c39_1 (set := set) ha (fun x => ?_) _ s hl (by omega) ?_
      · rw [tget_tlist, if_pos ⟨Nat.zero_le _, by rw [tbl_len]; have := x.toNat_lt; omega⟩, Nat.sub_zero]
        exact tbl_get set x
      · exact asS_s.mpr rfl
theorem c21_nil : Pure PP G h0 21 [S []] (.tuple [.bool false, .bool true]) := pure_run (by kernel_rfl)
theorem b25 (h : H) : exBuild env (env.ty 25) [] h = some (.agg [.int .u64 (Int.ofNat 0), .bool false], h) := by kernel_rfl
def noneV : AV := .tuple [.agg [.int .u64 (Int.ofNat 0), .bool false], .bool false]
theorem c9_1 {s some : List UInt8} {n : Nat} {b : P} {u : Bool} {base : Int} {h : H} {k : KV} (hs : okSet some) (h2 : 2 ≤ some.length) (hl : s.length ≤ 4611686018427387904) (ha : h.at b = .row (tlist [.int .u64 (Int.ofNat 0), .bool false] 0 .e) 2 0 25 true)
    (hr : s = [] ∨ runL s some ≠ s.length) (hk : ∀ h, k noneV h) : (r9 W1 k (n + 1)).a1 (.ptr b 0) s.length (enc s) u true base some.length (enc some) h := by
  refine j9_1 ?_
  unfold s9_1
  have fin : (oK (exBuild env (env.ty 25) [] h) fun v32 h33 =>
      stn 2 (.ptr b 0) v32 h33 fun h34 =>
      ldn 2 (.ptr b 0) h34 fun v35 =>
      k (.tuple [v35, (.bool false)]) h34) := by
    rw [b25, oK_some]
    refine stn_i ha (Nat.le_refl _) rfl (by decide) (by decide) ?_
    refine ldn_i (at_put_same _ _ _) (by decide) ?_
    exact hk _
  refine or_b ?_
  rw [strEq_nil]
  refine or_i (fun e => ?_) (fun e => cnd_t rfl fin)
  have e : ¬ s = [] := by simpa [bnot] using e
  refine use2 (c24 hs h2 s hl) ?_
  rw [asI_k]
  refine cnd_t ?_ fin
  rcases hr with hr | hr
  · exact absurd hr e
  · rw [bnot_eq, ibeq_eq]
    have : ¬ Int.ofNat (runL s some) = Int.ofNat s.length := fun h => hr (Int.ofNat.inj h)
    simpa using this
theorem c9_none (s : List UInt8) (hl : s.length ≤ 4611686018427387904) (ht : rtrim s sufL = s) (hx : hexedL s = false) (hr : s = [] ∨ runL s (if s.take 1 = [48] then octL else decL) ≠ s.length) : Pure PP G h0 9 [S s] noneV := by
  refine w9 (n := 2) sw_ok (g9 ?_)
  unfold s9_0
  refine newK_i ?_
  have ha : (h0.new ob25).at h0.next = .row (tlist [.int .u64 (Int.ofNat 0), .bool false] 0 .e) 2 0 25 true := by
    rw [at_new_same]; rfl
  refine use2 (c20 suf_ok (by decide) s hl) ?_
  rw [ht, asS_s]
  refine cutS_d (Nat.le_refl _) ?_
  have e0 : s.drop s.length = [] := List.drop_length
  rw [e0]
  refine use2 c21_nil ?_
  rw [ext_0, asB_b, ext_1, asB_b]
  refine use2 (c22 s) ?_
  rw [asB_b, hx]
  refine cnd_f rfl ?_
  refine use2 (c23 s [48]) ?_
  rw [asB_b]
  refine cnd_i (fun e => ?_) (fun e => ?_)
  · have e : s.take 1 = [48] := of_decide_eq_true e
    rw [if_pos e] at hr
    exact c9_1 (some := octL) oct_ok (by decide) hl ha hr fun _ => rfl
  · have e : ¬ s.take 1 = [48] := of_decide_eq_false e
    rw [if_neg e] at hr
    exact c9_1 (some := decL) dec_ok (by decide) hl ha hr fun _ => rfl
end Go.Den
namespace Go.Den
set_option maxRecDepth 100000
theorem digits_iff (s : List UInt8) : digitsL s = true ↔ ∀ x ∈ s, x ∈ decL := by
  unfold digitsL
  rw [List.all_eq_true]
  have key : ∀ x : UInt8, (decide (48 ≤ x.toNat) && decide (x.toNat ≤ 57)) = true ↔ x ∈ decL := by
    intro x
    rw [Bool.and_eq_true, decide_eq_true_eq, decide_eq_true_eq]
    have hx : ∀ n : Nat, n < 256 → (x = UInt8.ofNat n ↔ x.toNat = n) := fun n hn => by
      rw [← UInt8.toNat_inj]
      have : (UInt8.ofNat n).toNat = n := by simp; omega
      rw [this]
    have hd : decL = [UInt8.ofNat 48, UInt8.ofNat 49, UInt8.ofNat 50, UInt8.ofNat 51, UInt8.ofNat 52, UInt8.ofNat 53, UInt8.ofNat 54, UInt8.ofNat 55, UInt8.ofNat 56, UInt8.ofNat 57] := rfl
    rw [hd]
    simp only [List.mem_cons, List.not_mem_nil, or_false]
    rw [hx 48 (by decide), hx 49 (by decide), hx 50 (by decide), hx 51 (by decide), hx 52 (by decide), hx 53 (by decide), hx 54 (by decide), hx 55 (by decide), hx 56 (by decide), hx 57 (by decide)]
    omega
  exact ⟨fun h x hx => (key x).1 (h x hx), fun h x hx => (key x).2 (h x hx)⟩
theorem dec_hex {x : UInt8} (h : x ∈ decL) : x ∈ hexL := by
  simp only [decL, hexL, List.mem_cons, List.not_mem_nil, or_false] at h ⊢
  rcases h with h | h | h | h | h | h | h | h | h | h <;> simp [h]
theorem runL_app {a set : List UInt8} (r : List UInt8) (h : ∀ x ∈ a, x ∈ set) : runL (a ++ r) set = a.length + runL r set := by
  unfold runL
  rw [List.takeWhile_append_of_pos (by simpa using h), List.length_append]
theorem runL_nil (set : List UInt8) : runL [] set = 0 := rfl
theorem runL_no {c : UInt8} {set : List UInt8} (r : List UInt8) (h : c ∉ set) : runL (c :: r) set = 0 := by
  unfold runL; simp [h]
/-- nothing of a set stands ahead -/
def headNot (r set : List UInt8) : Prop := ∀ c q, r = c :: q → c ∉ set
theorem runL_hn {r set : List UInt8} (h : headNot r set) : runL r set = 0 := by
  cases r with
  | nil => rfl
  | cons c q => exact runL_no q (h c q rfl)
theorem floatR_nodot {some L a r : List UInt8} (ha : ∀ x ∈ a, x ∈ some) (hr : headNot r some) (hd : headNot r [46]) : floatR some L (a ++ r) = finL some L a.length false r := by
  have e : runL (a ++ r) some = a.length := by rw [runL_app _ ha, runL_hn hr]; omega
  unfold floatR
  rw [e, List.drop_left]
  have : ¬ r.take 1 = [46] := by
    cases r with
    | nil => simp
    | cons c q => intro h; simp at h; exact hd c q rfl (by simp [h])
  rw [if_neg this]
theorem floatR_dot {some L a b r : List UInt8} (ha : ∀ x ∈ a, x ∈ some) (h46 : (46 : UInt8) ∉ some) (hb : ∀ x ∈ b, x ∈ some) : floatR some L (a ++ 46 :: (b ++ r)) = finL some L (a.length + (b.length + runL r some)) true (r.drop (runL r some)) := by
  have e : runL (a ++ 46 :: (b ++ r)) some = a.length := by rw [runL_app _ ha, runL_no _ h46]; omega
  unfold floatR
  rw [e, List.drop_left]
  rw [if_pos (by simp)]
  have e2 : ((46 : UInt8) :: (b ++ r)).drop 1 = b ++ r := rfl
  rw [e2, runL_app _ hb]
  have e3 : ((46 : UInt8) :: (b ++ r)).drop (1 + (b.length + runL r some)) = r.drop (runL r some) := by
    rw [show 1 + (b.length + runL r some) = (b.length + runL r some) + 1 by omega, List.drop_succ_cons, ← List.drop_drop, List.drop_left]
  rw [e3]
def tails : List (List UInt8) := [[], [102], [70], [108], [76]]
def signs : List (List UInt8) := [[], [43], [45]]
theorem uns_sign {g q : List UInt8} (hg : g ∈ signs) (hq : headNot q [43, 45]) : unsL (g ++ q) = q := by
  simp only [signs, List.mem_cons, List.not_mem_nil, or_false] at hg
  rcases hg with rfl | rfl | rfl
  · cases q with
    | nil => rfl
    | cons c r =>
      have := hq c r rfl
      simp only [List.mem_cons, List.not_mem_nil, or_false, not_or] at this
      show (if c = 43 ∨ c = 45 then r else c :: r) = _
      rw [if_neg (by rintro (h | h); exact this.1 h; exact this.2 h)]
  · rfl
  · rfl
theorem tail_hn {t : List UInt8} (ht : t ∈ tails) : headNot t decL ∧ headNot t [43, 45] ∧ headNot t [46] ∧ headNot t eL ∧ headNot t pL ∧ tailL t = true := by
  simp only [tails, List.mem_cons, List.not_mem_nil, or_false] at ht
  rcases ht with rfl | rfl | rfl | rfl | rfl <;> refine ⟨?_, ?_, ?_, ?_, ?_, by decide⟩ <;> intro c q h <;> cases h <;> decide
theorem exp_tail {t L : List UInt8} (h : headNot t L) : expL t L = (t, false) := by
  cases t with
  | nil => rfl
  | cons c q => exact expL_out (h c q rfl) q
theorem dig_hn {e t : List UInt8} (he : ∀ x ∈ e, x ∈ decL) (ht : t ∈ tails) : headNot (e ++ t) [43, 45] := by
  cases e with
  | nil => exact (tail_hn ht).2.1
  | cons c q =>
    intro c' q' h
    have : c = c' := by simpa using (List.cons.inj h).1
    subst this
    have := he c (by simp)
    simp only [decL, List.mem_cons, List.not_mem_nil, or_false] at this
    rcases this with rfl | rfl | rfl | rfl | rfl | rfl | rfl | rfl | rfl | rfl <;> decide
/-- what stands behind an exponent's letter -/
theorem exp_part {x : UInt8} {L g e t : List UInt8} (hx : x ∈ L) (hg : g ∈ signs) (he : ∀ x ∈ e, x ∈ decL) (ht : t ∈ tails) : expL (x :: (g ++ (e ++ t))) L = if e = [] then (x :: (g ++ (e ++ t)), false) else (t, true) := by
  rw [expL_in hx, uns_sign hg (dig_hn he ht), runL_app _ he, runL_hn (tail_hn ht).1]
  by_cases h : e = []
  · subst h; simp
  · have : ¬ e.length + 0 = 0 := by have := List.length_pos_iff.2 h; omega
    rw [if_neg this, if_neg h]
    congr 1
    simp
theorem tail_not {x : UInt8} (hx : x = 101 ∨ x = 69 ∨ x = 112) (r : List UInt8) : tailL (x :: r) = false := by
  unfold tailL
  rcases hx with rfl | rfl | rfl <;> simp
theorem not_hex {a : List UInt8} {c : UInt8} {r : List UInt8} (ha : ∀ x ∈ a, x ∈ decL) (hc : c ≠ 120 ∧ c ≠ 88 ∧ c ≠ 48) : hexedL (a ++ c :: r) = false := by
  have key : ∀ y : UInt8, (y = 120 ∨ y = 88) → ¬ (a ++ c :: r).take 2 = [48, y] := by
    intro y hy h
    match a, ha, h with
    | [], _, h =>
      have := congrArg List.head? h
      simp at this
      exact hc.2.2 this
    | [p], _, h => 
      simp at h
      rcases hy with rfl | rfl
      · exact hc.1 h.2
      · exact hc.2.1 h.2
    | p :: q :: a, ha, h =>
      simp at h
      have := ha q (by simp)
      rw [h.2] at this
      rcases hy with rfl | rfl <;> revert this <;> decide
  show (decide ((a ++ c :: r).take 2 = [48, 120]) || decide ((a ++ c :: r).take 2 = [48, 88])) = false
  rw [decide_eq_false (key 120 (.inl rfl)), decide_eq_false (key 88 (.inr rfl))]; rfl
theorem rtrim_all {s set : List UInt8} (h : ∀ x ∈ s, x ∉ set) : rtrim s set = s := by
  unfold rtrim
  have : s.reverse.dropWhile (· ∈ set) = s.reverse := by
    cases e : s.reverse with
    | nil => rfl
    | cons c q =>
      have hc : c ∉ set := h c (by rw [← List.mem_reverse, e]; simp)
      simp [hc]
  rw [this, List.reverse_reverse]
theorem runL_ne {s set : List UInt8} {x : UInt8} (hx : x ∈ s) (hn : x ∉ set) : runL s set ≠ s.length := by
  intro h
  have e : s.takeWhile (· ∈ set) = s := (List.takeWhile_sublist _).eq_of_length h
  have := List.all_takeWhile (p := fun b => decide (b ∈ set)) (l := s)
  rw [e, List.all_eq_true] at this
  exact hn (by simpa using this x hx)
section
variable {a b e t g : List UInt8} (ha : ∀ x ∈ a, x ∈ decL) (hb : ∀ x ∈ b, x ∈ decL) (he : ∀ x ∈ e, x ∈ decL) (ht : t ∈ tails) (hg : g ∈ signs)
include ha
omit ha in
theorem len_nil (a : List UInt8) : decide (a.length = 0) = decide (a = []) := by cases a <;> simp
omit ha in
theorem fin_dec {n : Nat} {p : Bool} {r : List UInt8} : finL decL eL n p r = (!decide (n = 0) && ((expL r eL).2 || p) && tailL (expL r eL).1) := by
  have : decide (decL = hexL) = false := by decide
  unfold finL
  rw [this, Bool.or_false]
  cases decide (n = 0) <;> cases (expL r eL).2 <;> cases p <;> simp
omit ha in
theorem fin_hex {n : Nat} {p : Bool} {r : List UInt8} : finL hexL pL n p r = (!decide (n = 0) && (expL r pL).2 && tailL (expL r pL).1) := by
  unfold finL
  rw [decide_eq_true (rfl : hexL = hexL), Bool.or_true, Bool.and_true]
  cases decide (n = 0) <;> cases (expL r pL).2 <;> simp
include hb ht in
theorem p1 : floatL (a ++ 46 :: (b ++ t)) = (!decide (a = []) || !decide (b = [])) := by
  unfold floatL
  rw [if_neg (by rw [not_hex ha (by decide)]; simp), floatR_dot ha (by decide) hb, runL_hn (tail_hn ht).1, List.drop_zero, fin_dec, exp_tail (tail_hn ht).2.2.2.1, (tail_hn ht).2.2.2.2.2]
  cases a <;> cases b <;> simp
include he ht hg in
theorem p2 : floatL (a ++ 101 :: (g ++ (e ++ t))) = (!decide (a = []) && !decide (e = [])) := by
  have h1 : headNot (101 :: (g ++ (e ++ t))) decL := fun c q h => by cases h; decide
  have h2 : headNot (101 :: (g ++ (e ++ t))) [46] := fun c q h => by cases h; decide
  unfold floatL
  rw [if_neg (by rw [not_hex ha (by decide)]; simp), floatR_nodot ha h1 h2, fin_dec, exp_part (by decide) hg he ht]
  by_cases h : e = []
  · rw [if_pos h]; simp [h]
  · rw [if_neg h, (tail_hn ht).2.2.2.2.2]; cases a <;> simp [h]
include hb he ht hg in
theorem p3 : floatL (a ++ 46 :: (b ++ 69 :: (g ++ (e ++ t)))) = ((!decide (a = []) || !decide (b = [])) && !decide (e = [])) := by
  have h1 : headNot (69 :: (g ++ (e ++ t))) decL := fun c q h => by cases h; decide
  unfold floatL
  rw [if_neg (by rw [not_hex ha (by decide)]; simp), floatR_dot ha (by decide) hb, runL_hn h1, List.drop_zero, fin_dec, exp_part (by decide) hg he ht]
  by_cases h : e = []
  · rw [if_pos h, tail_not (by simp)]; simp [h]
  · rw [if_neg h, (tail_hn ht).2.2.2.2.2]; cases a <;> cases b <;> simp [h]
include hb he ht hg in
theorem p5 : floatL (48 :: 120 :: (a ++ 46 :: (b ++ 112 :: (g ++ (e ++ t))))) = ((!decide (a = []) || !decide (b = [])) && !decide (e = [])) := by
  have h1 : headNot (112 :: (g ++ (e ++ t))) hexL := fun c q h => by cases h; decide
  have hx : hexedL (48 :: 120 :: (a ++ 46 :: (b ++ 112 :: (g ++ (e ++ t))))) = true := by unfold hexedL hx1 hx2; simp
  unfold floatL
  rw [if_pos hx]
  show floatR hexL pL (a ++ 46 :: (b ++ 112 :: (g ++ (e ++ t)))) = _
  rw [floatR_dot (fun x h => dec_hex (ha x h)) (by decide) (fun x h => dec_hex (hb x h)), runL_hn h1, List.drop_zero, fin_hex, exp_part (by decide) hg he ht]
  by_cases h : e = []
  · rw [if_pos h]; simp [h]
  · rw [if_neg h, (tail_hn ht).2.2.2.2.2]; cases a <;> cases b <;> simp [h]
include hb ht in
theorem p6 : floatL (48 :: 120 :: (a ++ 46 :: (b ++ t))) = false := by
  have hx : hexedL (48 :: 120 :: (a ++ 46 :: (b ++ t))) = true := by unfold hexedL hx1 hx2; simp
  unfold floatL
  rw [if_pos hx]
  show floatR hexL pL (a ++ 46 :: (b ++ t)) = _
  rw [floatR_dot (fun x h => dec_hex (ha x h)) (by decide) (fun x h => dec_hex (hb x h)), fin_hex]
  have : (expL (t.drop (runL t hexL)) pL).2 = false := by
    simp only [tails, List.mem_cons, List.not_mem_nil, or_false] at ht
    rcases ht with rfl | rfl | rfl | rfl | rfl <;> decide
  rw [this]; simp
include ht in
theorem p7 : floatL (a ++ (t ++ [120])) = false := by
  have hd : headNot (t ++ [120]) decL ∧ headNot (t ++ [120]) [46] ∧ (expL (t ++ [120]) eL).2 = false := by
    simp only [tails, List.mem_cons, List.not_mem_nil, or_false] at ht
    rcases ht with rfl | rfl | rfl | rfl | rfl <;> refine ⟨?_, ?_, by decide⟩ <;> intro c q h <;> cases h <;> decide
  unfold floatL
  by_cases hx : hexedL (a ++ (t ++ [120])) = true
  · rw [if_pos hx]
    have hz : (a ++ (t ++ [120])).drop 2 = [] := by
      have hx : (decide ((a ++ (t ++ [120])).take 2 = [48, 120]) || decide ((a ++ (t ++ [120])).take 2 = [48, 88])) = true := hx
      simp only [tails, List.mem_cons, List.not_mem_nil, or_false] at ht
      match a, ha with
      | [], _ => rcases ht with rfl | rfl | rfl | rfl | rfl <;> simp at hx
      | [p], _ => rcases ht with rfl | rfl | rfl | rfl | rfl <;> simp at hx ⊢
      | p :: q :: a, ha =>
        have hq := ha q (by simp)
        simp at hx
        exfalso
        rcases hx with ⟨_, rfl⟩ | ⟨_, rfl⟩ <;> revert hq <;> decide
    rw [hz]; decide
  · rw [if_neg hx, floatR_nodot ha hd.1 hd.2.1, fin_dec, hd.2.2]; simp
include hb in
theorem n1 : rtrim (a ++ 46 :: b) sufL = a ++ 46 :: b ∧ hexedL (a ++ 46 :: b) = false ∧ (a ++ 46 :: b = [] ∨ runL (a ++ 46 :: b) (if (a ++ 46 :: b).take 1 = [48] then octL else decL) ≠ (a ++ 46 :: b).length) := by
  refine ⟨rtrim_all fun x hx => ?_, not_hex ha (by decide), .inr (runL_ne (x := 46) (by simp) (by split <;> decide))⟩
  have hd : ∀ x ∈ decL, x ∉ sufL := by decide
  simp only [List.mem_append, List.mem_cons] at hx
  rcases hx with hx | rfl | hx
  · exact hd x (ha x hx)
  · decide
  · exact hd x (hb x hx)
include he hg in
theorem n2 : rtrim (a ++ 101 :: (g ++ e)) sufL = a ++ 101 :: (g ++ e) ∧ hexedL (a ++ 101 :: (g ++ e)) = false ∧ (a ++ 101 :: (g ++ e) = [] ∨ runL (a ++ 101 :: (g ++ e)) (if (a ++ 101 :: (g ++ e)).take 1 = [48] then octL else decL) ≠ (a ++ 101 :: (g ++ e)).length) := by
  refine ⟨rtrim_all fun x hx => ?_, not_hex ha (by decide), .inr (runL_ne (x := 101) (by simp) (by split <;> decide))⟩
  have hd : ∀ x ∈ decL, x ∉ sufL := by decide
  have hs : ∀ x ∈ g, x ∉ sufL := by
    simp only [signs, List.mem_cons, List.not_mem_nil, or_false] at hg
    rcases hg with rfl | rfl | rfl <;> decide
  simp only [List.mem_append, List.mem_cons] at hx
  rcases hx with hx | rfl | hx | hx
  · exact hd x (ha x hx)
  · decide
  · exact hs x hx
  · exact hd x (he x hx)
end
end Go.Den
namespace Go.Den
open Go.RowKit
set_option maxRecDepth 100000
theorem or_q {a b : Bool} {h : H} {Q : (Bool → H → Prop) → Prop} {k : Bool → H → Prop} (hq : ∀ k', k' b h → Q k') (hk : k (a || b) h) : joinB (fun k1 => gate false a (Q k1) (k1 true h)) k := by
  cases a with
  | true => exact hk
  | false => exact hq k hk
theorem and_q {a b : Bool} {h : H} {Q : (Bool → H → Prop) → Prop} {k : Bool → H → Prop} (hq : ∀ k', k' b h → Q k') (hk : k (a && b) h) : joinB (fun k1 => gate true a (Q k1) (k1 false h)) k := by
  cases a with
  | true => exact hq k hk
  | false => exact hk
theorem c8 : Pure PP G h0 8 [] (.bool true) := pure_run (by kernel_rfl)
noncomputable def T5 : Tm := Option.rec .e (fun t => t) (fillL (placeA 1) 5 [(0, .str 0 0), (1, .str 1 102), (2, .str 1 70), (3, .str 1 108), (4, .str 1 76)] (tlist (repl [.str 0 0] 5) 0 .e))
noncomputable def T3 : Tm := Option.rec .e (fun t => t) (fillL (placeA 1) 3 [(0, .str 0 0), (1, .str 1 43), (2, .str 1 45)] (tlist (repl [.str 0 0] 3) 0 .e))
theorem b5 (h : H) : withElem env 35 (fun e ei => exBuildSlice 5 [(0, (.str 0 0)), (1, (.str 1 102)), (2, (.str 1 70)), (3, (.str 1 108)), (4, (.str 1 76))] h e ei) = some (.slice h.next 0 5 1 true, h.new (.row T5 5 0 9 true)) := by kernel_rfl
theorem b3 (h : H) : withElem env 35 (fun e ei => exBuildSlice 3 [(0, (.str 0 0)), (1, (.str 1 43)), (2, (.str 1 45))] h e ei) = some (.slice h.next 0 3 1 true, h.new (.row T3 3 0 9 true)) := by kernel_rfl
theorem pick5 {h : H} {b : P} (ha : h.at b = .row T5 5 0 9 true) {r : Nat} (hr : r < 5) {K : Nat → Nat → Prop} (hk : ∀ t ∈ tails, K t.length (enc t)) : elemA 1 r (.slice b 0 5 1 true) fun v => ld1 v h fun v => asS v K := by
  have key : ∀ t, t ∈ tails → tget T5 r = S t → elemA 1 r (.slice b 0 5 1 true) fun v => ld1 v h fun v => asS v K := by
    intro t ht e
    have hb : elemA 1 r (.slice b 0 5 1 true) (fun v => ld1 v h fun v => asS v K) = ld1 (.ptr b r) h fun v => asS v K := by
      match r, hr with
      | 0, _ | 1, _ | 2, _ | 3, _ | 4, _ => rfl
    rw [hb]
    refine ld1_i ha hr ?_
    rw [e]
    exact hk t ht
  match r, hr with
  | 0, _ => exact key [] (by decide) (by kernel_rfl)
  | 1, _ => exact key [102] (by decide) (by kernel_rfl)
  | 2, _ => exact key [70] (by decide) (by kernel_rfl)
  | 3, _ => exact key [108] (by decide) (by kernel_rfl)
  | 4, _ => exact key [76] (by decide) (by kernel_rfl)
theorem pick3 {h : H} {b : P} (ha : h.at b = .row T3 3 0 9 true) {r : Nat} (hr : r < 3) {K : Nat → Nat → Prop} (hk : ∀ t ∈ signs, K t.length (enc t)) : elemA 1 r (.slice b 0 3 1 true) fun v => ld1 v h fun v => asS v K := by
  have key : ∀ t, t ∈ signs → tget T3 r = S t → elemA 1 r (.slice b 0 3 1 true) fun v => ld1 v h fun v => asS v K := by
    intro t ht e
    have hb : elemA 1 r (.slice b 0 3 1 true) (fun v => ld1 v h fun v => asS v K) = ld1 (.ptr b r) h fun v => asS v K := by
      match r, hr with
      | 0, _ | 1, _ | 2, _ => rfl
    rw [hb]
    refine ld1_i ha hr ?_
    rw [e]
    exact hk t ht
  match r, hr with
  | 0, _ => exact key [] (by decide) (by kernel_rfl)
  | 1, _ => exact key [43] (by decide) (by kernel_rfl)
  | 2, _ => exact key [45] (by decide) (by kernel_rfl)
theorem eqBB (x y : Bool) : binA env .eql 4 (.bool x) (.bool y) = some (.bool (beqB x y)) := by kernel_rfl
theorem oV_some {α : Type} {x : α} {K : α → Prop} : oV (some x) K = K x := rfl
theorem beqB_self (b : Bool) : beqB b b = true := by cases b <;> rfl
theorem tail_len {t : List UInt8} (ht : t ∈ tails) : t.length ≤ 1 := by
  simp only [tails, List.mem_cons, List.not_mem_nil, or_false] at ht
  rcases ht with rfl | rfl | rfl | rfl | rfl <;> decide
theorem sign_len {t : List UInt8} (ht : t ∈ signs) : t.length ≤ 1 := by
  simp only [signs, List.mem_cons, List.not_mem_nil, or_false] at ht
  rcases ht with rfl | rfl | rfl <;> decide
theorem c6_1 {a b e t g : List UInt8} {n : Nat} (ha : ∀ x ∈ a, x ∈ decL) (hb : ∀ x ∈ b, x ∈ decL) (he : ∀ x ∈ e, x ∈ decL) (ht : t ∈ tails) (hg : g ∈ signs) (hl : a.length + b.length + e.length ≤ 60) {h : H} {k : KV} (hk : ∀ h, k (.bool true) h) :
    (r6 W1 k (n + 1)).a1 a.length (enc a) b.length (enc b) e.length (enc e) t.length (enc t) g.length (enc g) (floatL (a ++ 46 :: (b ++ t))) (floatL (a ++ 101 :: (g ++ (e ++ t)))) (floatL (a ++ 46 :: (b ++ 69 :: (g ++ (e ++ t))))) h := by
  have lt := tail_len ht
  have lg := sign_len hg
  refine j6_1 ?_
  unfold s6_1
  refine catS_i (t := [46]) (by simp; omega) ?_
  refine catS_i (by simp; omega) ?_
  rw [List.append_assoc, List.singleton_append]
  obtain ⟨q1, q2, q3⟩ := n1 ha hb
  refine use2 (c9_none (a ++ 46 :: b) (by simp; omega) q1 q2 q3) ?_
  unfold noneV
  rw [ext_0, ext_1, asB_b]
  refine newK_i ?_
  refine new_fill (zs := [.int .u64 (Int.ofNat 0), .bool false]) rfl rfl (by decide) ?_
  intro h1 _
  refine catS_i (t := [101]) (by simp; omega) ?_
  refine catS_i (by simp; omega) ?_
  refine catS_i (by simp; omega) ?_
  rw [List.append_assoc, List.append_assoc, List.singleton_append]
  obtain ⟨q1, q2, q3⟩ := n2 ha he hg
  refine use2 (c9_none (a ++ 101 :: (g ++ e)) (by simp; omega) q1 q2 q3) ?_
  unfold noneV
  rw [ext_0, ext_1, asB_b]
  refine newK_i ?_
  refine new_fill (zs := [.int .u64 (Int.ofNat 0), .bool false]) rfl rfl (by decide) ?_
  intro h2 _
  refine catS_i (s := [48, 120]) (by simp; omega) ?_
  refine catS_i (t := [46]) (by simp; omega) ?_
  refine catS_i (by simp; omega) ?_
  refine catS_i (t := [112]) (by simp; omega) ?_
  refine catS_i (by simp; omega) ?_
  refine catS_i (by simp; omega) ?_
  refine catS_i (by simp; omega) ?_
  have e1 : [48, 120] ++ a ++ [46] ++ b ++ [112] ++ g ++ e ++ t = 48 :: 120 :: (a ++ 46 :: (b ++ 112 :: (g ++ (e ++ t)))) := by simp
  rw [e1]
  refine use2 (c16 _ (by simp; omega)) ?_
  rw [asB_b]
  refine catS_i (s := [48, 120]) (by simp; omega) ?_
  refine catS_i (t := [46]) (by simp; omega) ?_
  refine catS_i (by simp; omega) ?_
  refine catS_i (by simp; omega) ?_
  have e2 : [48, 120] ++ a ++ [46] ++ b ++ t = 48 :: 120 :: (a ++ 46 :: (b ++ t)) := by simp
  rw [e2]
  refine use2 (c16 _ (by simp; omega)) ?_
  rw [asB_b, p1 ha hb ht, p2 ha he ht hg, p3 ha hb he ht hg, p5 ha hb he ht hg, p6 ha hb ht]
  simp only [strEq_nil, bnot_eq]
  refine or_b ?_
  rw [eqBB, oV_some, asB_b, beqB_self]
  refine and_q (b := true) (fun k' hk' => ?_) ?_
  · refine and_b ?_
    rw [eqBB, oV_some, asB_b, beqB_self]
    exact hk'
  refine and_q (b := true) (fun k' hk' => ?_) ?_
  · refine and_b ?_
    rw [eqBB, oV_some, asB_b, beqB_self]
    exact hk'
  refine and_b ?_
  refine and_b ?_
  refine and_q (b := true) (fun k' hk' => ?_) ?_
  · refine and_b ?_
    rw [eqBB, oV_some, asB_b, beqB_self]
    exact hk'
  refine and_b ?_
  refine and_q (b := true) (fun k' hk' => ?_) ?_
  · refine catS_i (by omega) ?_
    refine catS_i (t := [120]) (by simp; omega) ?_
    refine use2 (c16 _ (by simp; omega)) ?_
    rw [asB_b, List.append_assoc, p7 ha ht]
    exact hk'
  refine and_q (b := true) (fun k' hk' => ?_) ?_
  · refine use2 c8 ?_
    rw [asB_b]
    exact hk'
  exact hk _
theorem wrapN {m : Nat} (h : m ≤ 9223372036854775807) : wrap .i64 (Int.ofNat m) = Int.ofNat m := wrap64 (by show _ ≤ ((m : Nat) : Int); omega) (by show ((m : Nat) : Int) ≤ _; omega)
theorem c6 (a b e : List UInt8) (how : Int) (la : a.length ≤ 1152921504606846976) (lb : b.length ≤ 1152921504606846976) (le : e.length ≤ 1152921504606846976) : Pure PP G h0 6 [S a, S b, S e, .int .i64 how] (.bool true) := by
  refine w6 (n := 2) sw_ok (g6 ?_)
  unfold s6_0
  refine use2 (c19 a (by omega)) ?_
  rw [asB_b]
  simp only [bnot_eq]
  refine or_q (b := !digitsL b) (fun k' hk' => ?_) ?_
  · refine use2 (c19 b (by omega)) ?_
    rw [asB_b]; exact hk'
  refine or_q (b := !digitsL e) (fun k' hk' => ?_) ?_
  · refine use2 (c19 e (by omega)) ?_
    rw [asB_b]; exact hk'
  refine or_q (b := decide (60 < a.length + b.length + e.length)) (fun k' hk' => ?_) ?_
  · have w1 : wrap .i64 (iadd (Int.ofNat a.length) (Int.ofNat b.length)) = Int.ofNat (a.length + b.length) := wrapN (m := a.length + b.length) (by omega)
    have w2 : wrap .i64 (iadd (Int.ofNat (a.length + b.length)) (Int.ofNat e.length)) = Int.ofNat (a.length + b.length + e.length) := wrapN (m := a.length + b.length + e.length) (by omega)
    rw [fI_eq, w1, fI_eq, w2, iblt_eq]
    have : decide (Int.ofNat 60 < Int.ofNat (a.length + b.length + e.length)) = decide (60 < a.length + b.length + e.length) := by
      rw [Bool.eq_iff_iff, decide_eq_true_eq, decide_eq_true_eq]
      exact Int.ofNat_lt
    rw [this]; exact hk'
  refine cnd_i (fun _ => ?_) (fun hc => ?_)
  · refine use2 c8 ?_
    rw [asB_b]
  · simp only [Bool.or_eq_false_iff, Bool.not_eq_false', decide_eq_false_iff_not] at hc
    obtain ⟨⟨⟨da, db⟩, de⟩, hl⟩ := hc
    have ha := (digits_iff a).1 da
    have hb := (digits_iff b).1 db
    have he := (digits_iff e).1 de
    rw [b5, oK_some]
    obtain ⟨r, hr, cr⟩ := c18 how (m := 5) (by decide) (by decide)
    refine use2 cr ?_
    rw [asI_k, natI_eq]
    refine pick5 (at_new_same _ _) hr fun t ht => ?_
    rw [b3, oK_some]
    have hq : ∀ K : Int → Prop, K (wrap .i64 (how.tdiv (Int.ofNat 5))) → quoI .i64 how (Int.ofNat 5) K := fun K hK => by
      show fI (wrap .i64 (how.tdiv (Int.ofNat 5))) K
      rw [fI_eq]; exact hK
    refine hq _ ?_
    obtain ⟨r2, hr2, cr2⟩ := c18 (wrap .i64 (how.tdiv (Int.ofNat 5))) (m := 3) (by decide) (by decide)
    refine use2 cr2 ?_
    rw [asI_k, natI_eq]
    refine pick3 (at_new_same _ _) hr2 fun g hg => ?_
    have lt := tail_len ht
    have lg := sign_len hg
    refine catS_i (t := [46]) (by simp; omega) ?_
    refine catS_i (by simp; omega) ?_
    refine catS_i (by simp; omega) ?_
    have e1 : a ++ [46] ++ b ++ t = a ++ 46 :: (b ++ t) := by simp
    rw [e1]
    refine use2 (c16 _ (by simp; omega)) ?_
    rw [asB_b]
    refine catS_i (t := [101]) (by simp; omega) ?_
    refine catS_i (by simp; omega) ?_
    refine catS_i (by simp; omega) ?_
    refine catS_i (by simp; omega) ?_
    have e2 : a ++ [101] ++ g ++ e ++ t = a ++ 101 :: (g ++ (e ++ t)) := by simp
    rw [e2]
    refine use2 (c16 _ (by simp; omega)) ?_
    rw [asB_b]
    refine catS_i (t := [46]) (by simp; omega) ?_
    refine catS_i (by simp; omega) ?_
    refine catS_i (t := [69]) (by simp; omega) ?_
    refine catS_i (by simp; omega) ?_
    refine catS_i (by simp; omega) ?_
    refine catS_i (by simp; omega) ?_
    have e3 : a ++ [46] ++ b ++ [69] ++ g ++ e ++ t = a ++ 46 :: (b ++ 69 :: (g ++ (e ++ t))) := by simp
    rw [e3]
    refine use2 (c16 _ (by simp; omega)) ?_
    rw [asB_b]
    exact c6_1 ha hb he ht hg (by omega) fun _ => rfl
end Go.Den
