/-
  A part of the proof: a number's digits; a line directive.
-/
import Derived.Test.YtdpnnajfmkpfjaaGreatDoorHda
namespace Go.Den
open Go.RowKit
set_option maxRecDepth 100000
/-- bytes, read from a slice's beginning -/
def Bt (h : H) (v : AV) (b : List UInt8) : Prop := (v = .nils ∧ b = []) ∨ ∃ q t m z w ti, v = .slice q 0 b.length 1 ti ∧ q.nat < h.next.nat ∧ h.at q = .row t m z TB w ∧ b.length ≤ m ∧ CellsAre t b
theorem Bt.len {h : H} {v : AV} {b : List UInt8} (hb : Bt h v b) {K : Nat → Prop} : lenV v K = K b.length := by
  rcases hb with ⟨rfl, rfl⟩ | ⟨_, _, _, _, _, _, rfl, _⟩ <;> rfl
theorem Bt.conv {h : H} {v : AV} {b : List UInt8} (hb : Bt h v b) : convA env h 37 9 v = some (S b, h) := by
  rcases hb with ⟨rfl, rfl⟩ | ⟨q, t, m, z, w, ti, rfl, _, h1, h2, h3⟩
  · rw [cv37]; rfl
  · exact conv_row h1 h2 h3
theorem Bt.ext {h h' : H} {v : AV} {b : List UInt8} (hb : Bt h v b) (x : Exh h h') : Bt h' v b := by
  rcases hb with ⟨rfl, rfl⟩ | ⟨q, t, m, z, w, ti, rfl, h0, h1, h2⟩
  · exact .inl ⟨rfl, rfl⟩
  · exact .inr ⟨q, t, m, z, w, ti, rfl, Nat.lt_of_lt_of_le h0 x.1, by rw [x.2 q h0]; exact h1, h2⟩
theorem Bt.cells {h : H} {v : AV} {b : List UInt8} (hb : Bt h v b) : cellsOfArg h 1 v = some (b.length, ubs b) := by
  rcases hb with ⟨rfl, rfl⟩ | ⟨q, t, m, z, w, ti, rfl, h0, h1, h2, h3⟩
  · rfl
  · show (Bool.rec none (Option.rec none (fun cs => some (b.length, cs)) (h.read q 0 (Nat.mul b.length 1))) (Nat.beq 1 1) : Option (Nat × List AV)) = _
    rw [show Nat.mul b.length 1 = b.length from Nat.mul_one _, read_row h1 h2, h3.get]; rfl
/-- a byte ahead of others -/
theorem ahead {h : H} {v : AV} {b : List UInt8} {x : UInt8} (hb : Bt h v b) (hl : b.length ≤ 1000) {k : KV} (hk : ∀ v' h', Exh h h' → Bt h' v' (x :: b) → k v' h') :
    oK (withElem env 37 (fun e ei => exBuildSlice 1 [(0, .int .u8 (Int.ofNat x.toNat))] h e ei)) fun y h' => oK (builtinA env .append [37, 37] [y, v] h') k := by
  rw [bld1, oK_some, app37]
  have x1 : Exh h (h.new (.row (T1 (Int.ofNat x.toNat)) 1 0 TB true)) := Exh.new
  have hn : h.next.nat < (h.new (.row (T1 (Int.ofNat x.toNat)) 1 0 TB true)).next.nat := by rw [next_new]; omega
  have ha : (h.new (.row (T1 (Int.ofNat x.toNat)) 1 0 TB true)).at h.next = .row (T1 (Int.ofNat x.toNat)) 1 0 TB true := at_new_same _ _
  have hc : CellsAre (T1 (Int.ofNat x.toNat)) [x] := CellsAre.new [x] _
  have hb1 := hb.ext x1
  generalize h.new (.row (T1 (Int.ofNat x.toNat)) 1 0 TB true) = h1 at *
  generalize h.next = q at *
  have e0 : exAppend (some false) (.slice q 0 1 1 true) v h1 TB ei8 = (Bool.rec none (Bool.rec (appTo TB 1 (.slice q 0 1 1 true) b.length (ubs b) h1) (some (.slice q 0 1 1 true, h1)) (Nat.beq b.length 0)) (band true (fitsMem ei8 (Nat.add 1 b.length))) : Option (AV × H)) := by
    show (Option.rec none (fun p => Bool.rec none (Bool.rec (appTo TB 1 (.slice q 0 1 1 true) p.1 p.2 h1) (some (.slice q 0 1 1 true, h1)) (Nat.beq p.1 0)) (band true (fitsMem ei8 (Nat.add 1 p.1)))) (cellsOfArg h1 1 v) : Option (AV × H)) = _
    rw [hb1.cells]
  rw [e0, show fitsMem ei8 (Nat.add 1 b.length) = true from fits8 (by show 1 + b.length ≤ _; omega)]
  by_cases hbn : b = []
  · subst hbn
    show oK (some (.slice q 0 1 1 true, h1)) k
    rw [oK_some]
    exact hk _ _ x1 (.inr ⟨q, _, 1, 0, true, true, rfl, hn, ha, Nat.le_refl _, hc⟩)
  · have h0 : Nat.beq b.length 0 = false := by
      cases b with
      | nil => exact absurd rfl hbn
      | cons _ _ => rfl
    rw [h0]
    show oK (appTo TB 1 (.slice q 0 1 1 true) b.length (ubs b) h1) k
    have e1 : appTo TB 1 (.slice q 0 1 1 true) b.length (ubs b) h1 = (Option.rec none (fun old => appNew TB 1 (Nat.add 1 b.length) (appL old (ubs b)) h1) (h1.read q 0 (Nat.mul 1 1)) : Option (AV × H)) := rfl
    rw [e1, show Nat.mul 1 1 = 1 from rfl, read_row ha (Nat.le_refl _), show getCells (T1 (Int.ofNat x.toNat)) 1 0 = ubs [x] from hc.get]
    show oK (appNew TB 1 (Nat.add 1 b.length) (appL (ubs [x]) (ubs b)) h1) k
    rw [appL_eq, show ubs [x] ++ ubs b = ubs (x :: b) from rfl]
    show oK (some (.slice h1.next 0 (Nat.add 1 b.length) 1 false, h1.new (.row (tlist (ubs (x :: b)) 0 .e) (Nat.mul (Nat.add 1 b.length) 1) 0 TB false))) k
    rw [oK_some]
    have el : Nat.add 1 b.length = (x :: b).length := Nat.add_comm _ _
    rw [el, show Nat.mul (x :: b).length 1 = (x :: b).length from Nat.mul_one _]
    exact hk _ _ (x1.trans Exh.new) (.inr ⟨h1.next, _, _, 0, false, false, rfl, by rw [next_new]; omega, at_new_same _ _, Nat.le_refl _, CellsAre.new _ _⟩)
theorem remN {a b : Nat} (hb : 0 < b) {K : Int → Prop} : remI (Int.ofNat a) (Int.ofNat b) K = K (Int.ofNat (a % b)) := by
  show (Bool.rec (fI (Int.tmod (Int.ofNat a) (Int.ofNat b)) K) False (ibeq (Int.ofNat b) (.ofNat 0)) : Prop) = _
  rw [ieqN, decide_eq_false (by omega)]
  show fI (Int.ofNat (a % b)) K = _
  rw [fI_eq]
theorem quoN {a b : Nat} (hb : 0 < b) (ha : a < 18446744073709551616) {K : Int → Prop} : quoI .u64 (Int.ofNat a) (Int.ofNat b) K = K (Int.ofNat (a / b)) := by
  show (Bool.rec (fI (wrap .u64 (Int.tdiv (Int.ofNat a) (Int.ofNat b))) K) False (ibeq (Int.ofNat b) (.ofNat 0)) : Prop) = _
  rw [ieqN, decide_eq_false (by omega)]
  show fI (wrap .u64 (Int.ofNat (a / b))) K = _
  rw [wrap64l (Nat.lt_of_le_of_lt (Nat.div_le_self _ _) ha), fI_eq]
theorem digU (d : Nat) (h : d < 10) : UInt8.ofNat (48 + d) ∈ decL ∧ (UInt8.ofNat (48 + d)).toNat = 48 + d ∧ digN (UInt8.ofNat (48 + d)) = d := by
  have key : ∀ d : Fin 10, UInt8.ofNat (48 + d.val) ∈ decL ∧ (UInt8.ofNat (48 + d.val)).toNat = 48 + d.val ∧ digN (UInt8.ofNat (48 + d.val)) = d.val := by decide
  exact key ⟨d, h⟩
theorem valN_add (l : List UInt8) : ∀ v, valN 10 v l = v * 10 ^ l.length + valN 10 0 l := by
  induction l with
  | nil => intro v; show v = v * 1 + 0; omega
  | cons x l ih =>
    intro v
    rw [valN_cons, valN_cons, ih, ih (0 * 10 + digN x), List.length_cons, Nat.pow_succ, Nat.add_mul, Nat.zero_mul, Nat.zero_add]
    rw [Nat.mul_assoc, Nat.mul_comm 10 (10 ^ l.length)]
    omega
theorem c21_1 {hE : H} {sg : List UInt8} {U L : Nat} {k : KV} (hL : L ≤ 20) (hsg : sg.length ≤ 1) (hk : ∀ h' ds, Exh hE h' → (∀ x ∈ ds, x ∈ decL) → ds ≠ [] → ds.length ≤ L → valN 10 0 ds = U → k (S (sg ++ ds)) h') : ∀ (n u : Nat) (b : List UInt8) {h : H} {v : AV}, 22 - b.length < n → u < 18446744073709551616 → u < 10 ^ (L - b.length) → b.length ≤ L → (b = [] → 1 ≤ L) → (∀ x ∈ b, x ∈ decL) → u * 10 ^ b.length + valN 10 0 b = U → Exh hE h → Bt h v b →
    (r21 W1 k n).a1 (Int.ofNat u) sg.length (enc sg) v h
  | 0, _, _, _, _, hn, _, _, _, _, _, _, _, _ => absurd hn (Nat.not_lt_zero _)
  | n + 1, u, b, h, v, hn, hu, hp, hbL, h1, hd, hU, hx, hb => by
    refine j21_1 ?_
    unfold s21_1
    refine or_q (b := decide (b.length = 0)) (fun k' hk' => ?_) ?_
    · rw [hb.len, ieqN]; exact hk'
    rw [ilt]
    refine cnd_i (fun e => ?_) (fun e => ?_)
    · have hlt : b.length < L := by
        rcases Nat.lt_or_ge b.length L with h2 | h2
        · exact h2
        · exfalso
          have hz : L - b.length = 0 := by omega
          rw [hz] at hp
          have hu0 : u = 0 := by simp at hp; exact hp
          rw [hu0, decide_eq_false (by omega), Bool.false_or] at e
          have hb0 : b = [] := List.length_eq_zero_iff.1 (of_decide_eq_true e)
          have := h1 hb0
          rw [hb0] at h2
          simp at h2; omega
      have hmod : u % 10 < 10 := Nat.mod_lt _ (by decide)
      obtain ⟨d1, d2, d3⟩ := digU (u % 10) hmod
      rw [remN (by decide), iaddN, wrap64l (by omega), fI_eq, wrap8 (by omega), fI_eq]
      rw [show Int.ofNat (48 + u % 10) = Int.ofNat (UInt8.ofNat (48 + u % 10)).toNat by rw [d2]]
      refine ahead hb (by omega) fun v' h' x' hb' => ?_
      rw [quoN (by decide) hu]
      refine c21_1 hL hsg hk n (u / 10) (UInt8.ofNat (48 + u % 10) :: b) (by rw [List.length_cons]; omega) (by omega) ?_ (by rw [List.length_cons]; omega) (fun e => nomatch e) (fun y hy => ?_) ?_ (hx.trans x') hb'
      · rw [List.length_cons]
        rw [Nat.div_lt_iff_lt_mul (by decide), ← Nat.pow_succ]
        rw [show (L - (b.length + 1)).succ = L - b.length by omega]; exact hp
      · rcases List.mem_cons.1 hy with rfl | hy
        · exact d1
        · exact hd y hy
      · rw [valN_cons, valN_add b, d3, List.length_cons, Nat.pow_succ, ← hU]
        have h3 : u = u / 10 * 10 + u % 10 := by omega
        have h4 : u / 10 * (10 ^ b.length * 10) + ((0 * 10 + u % 10) * 10 ^ b.length + valN 10 0 b) = (u / 10 * 10 + u % 10) * 10 ^ b.length + valN 10 0 b := by
          rw [Nat.add_mul (u / 10 * 10), Nat.mul_comm (10 ^ b.length) 10, ← Nat.mul_assoc, Nat.zero_mul, Nat.zero_add]; omega
        rw [h4, ← h3]
    · rw [Bool.or_eq_false_iff] at e
      have hu0 : u = 0 := by have := of_decide_eq_false e.1; omega
      have hb0 : b ≠ [] := fun e' => of_decide_eq_false e.2 (by rw [e']; rfl)
      rw [hb.conv, oK_some, asS_s]
      refine catS_i (by omega) ?_
      rw [hu0, Nat.zero_mul, Nat.zero_add] at hU
      exact hk h b hx hd hb0 hbL hU
theorem wrapU (z : Int) : ∃ m : Nat, m < 18446744073709551616 ∧ wrap .u64 z = Int.ofNat m := by
  have e : wrap .u64 z = z % 18446744073709551616 := by
    rw [wrap_eq]; simp [IntKind.wrap, IntKind.bits, IntKind.signed]
  refine ⟨(z % 18446744073709551616).toNat, ?_, ?_⟩
  · have := Int.emod_lt_of_pos z (b := 18446744073709551616) (by omega)
    omega
  · rw [e]
    have := Int.emod_nonneg z (b := 18446744073709551616) (by omega)
    show _ = (((z % 18446744073709551616).toNat : Nat) : Int)
    omega
/-- a number as text -/
theorem c21_pos {m : Nat} {h : H} {k : KV} (hm : m < 9223372036854775808) (hk : ∀ h' ds, Exh h h' → (∀ x ∈ ds, x ∈ decL) → ds ≠ [] → ds.length ≤ 19 → valN 10 0 ds = m → k (S ds) h') : W1 (.func 21) [.int .i64 (Int.ofNat m)] h k := by
  refine w21 (n := 30) sw_ok (g21 ?_)
  unfold s21_0
  rw [wrap64l (by omega), fI_eq, ilt, decide_eq_false (Nat.not_lt_zero m)]
  refine cnd_f rfl ?_
  refine j21_2 ?_
  unfold s21_2
  exact c21_1 (hE := h) (sg := []) (U := m) (L := 19) (by decide) (by decide) (fun h' ds x a b c d => hk h' ds x a b c d) _ m [] (by decide) (by omega) (by simp; omega) (by decide) (fun _ => by decide) (fun _ h => nomatch h) (by show m * 1 + 0 = m; omega) Exh.refl (.inl ⟨rfl, rfl⟩)
theorem c21_neg {z : Int} (hz : z < 0) {h : H} {k : KV} (hk : ∀ h' ds, Exh h h' → (∀ x ∈ ds, x ∈ decL) → ds ≠ [] → ds.length ≤ 20 → k (S (45 :: ds)) h') : W1 (.func 21) [.int .i64 z] h k := by
  obtain ⟨a, ha, ea⟩ := wrapU z
  obtain ⟨c, hc, ec⟩ := wrapU (0 - Int.ofNat a)
  refine w21 (n := 30) sw_ok (g21 ?_)
  unfold s21_0
  rw [ea, fI_eq, show iblt z (Int.ofNat 0) = true by rw [iblt_eq]; exact decide_eq_true hz]
  refine cnd_t rfl ?_
  have eu : unA .neg (.int .u64 (Int.ofNat a)) = some (.int .u64 (Int.ofNat c)) := by
    show some (AV.int .u64 (IntKind.u64.wrap (0 - Int.ofNat a))) = _
    rw [← wrap_eq, ec]
  rw [eu, oV_some, asI_k]
  refine j21_2 ?_
  unfold s21_2
  exact c21_1 (hE := h) (sg := [45]) (U := c) (L := 20) (by decide) (by decide) (fun h' ds x a b c _ => hk h' ds x a b c) _ c [] (by decide) hc (by simp; omega) (by decide) (fun _ => by decide) (fun _ h => nomatch h) (by show c * 1 + 0 = c; omega) Exh.refl (.inl ⟨rfl, rfl⟩)
/-! ### header.Line -/
theorem pre34 {s : List UInt8} : decide ((34 :: s).take ([34] : List UInt8).length = [34]) = true := by
  show decide ([34] = [34]) = true
  rfl
theorem bodyL_plain {s : List UInt8} (h : ∀ x ∈ s, x ≠ 34 ∧ x ≠ 92) : ∀ n, s.length < n → bodyL 34 n s = some s := by
  induction s with
  | nil => intro n hn; obtain ⟨n, rfl⟩ : ∃ m, n = m + 1 := ⟨n - 1, by omega⟩; rfl
  | cons c s ih =>
    intro n hn
    obtain ⟨n, rfl⟩ : ∃ m, n = m + 1 := ⟨n - 1, by omega⟩
    have hc := h c List.mem_cons_self
    have e : bodyL 34 (n + 1) (c :: s) = if c = 34 then none else if c = 92 then (if (escL s).2 = 0 then none else (bodyL 34 n (s.drop (escL s).2)).map ((escL s).1 :: ·)) else (bodyL 34 n s).map (c :: ·) := rfl
    rw [e, if_neg hc.1, if_neg hc.2, ih (fun x hx => h x (List.mem_cons_of_mem _ hx)) n (by simpa using hn)]
    rfl
theorem bytL_plain {s : List UInt8} (h : ∀ x ∈ s, x ≠ 34 ∧ x ≠ 92) : bytL (34 :: (s ++ [34])) = some s := by
  have e : bytL (34 :: (s ++ [34])) = if (s ++ [34]) = [] then none else if (s ++ [34]).getLast? = some 34 then bodyL 34 ((s ++ [34]).length + 1) (s ++ [34]).dropLast else none := rfl
  rw [e, if_neg (by simp), if_pos (by simp), List.dropLast_concat]
  exact bodyL_plain h _ (by simp; omega)
theorem c8_bad {h : H} {v : AV} {T : List Tok} {k : KV} (hr : Rd 8 h v (tks T)) (hT : 2 < T.length) (hk : k (.tuple [.int .i64 (Int.ofNat 0), S [], .bool false, .bool false]) h) : W1 (.func 8) [v] h k := by
  refine w8 (n := 4) sw_ok (g8 ?_)
  unfold s8_0
  rw [hr.tlen]
  refine or_q (b := true) (fun k' hk' => ?_) ?_
  · rw [hr.tlen, ilt, decide_eq_true hT]; exact hk'
  rw [Bool.or_true]
  refine cnd_t rfl ?_
  refine j8_1 ?_
  unfold s8_1
  exact hk
theorem c8 {h : H} {v : AV} {x y : Tok} {s : List UInt8} {k : KV} (hr : Rd 8 h v (tks [x, y])) (hx : x.kind = 2) (hs : ∀ z ∈ x.text, z ∈ decL) (hne : x.text ≠ []) (hl : x.text.length ≤ 1000000) (hv : valN 10 0 x.text < 9223372036854775808) (hy : y.kind = 4) (hyt : y.text = 34 :: (s ++ [34])) (hsq : ∀ z ∈ s, z ≠ 34 ∧ z ≠ 92) (hsl : s.length ≤ 1000)
    (hk : ∀ h', Exh h h' → k (if 1 ≤ valN 10 0 x.text ∧ valN 10 0 x.text ≤ 2147483647 then .tuple [.int .i64 (Int.ofNat (valN 10 0 x.text)), S s, .bool true, .bool true] else .tuple [.int .i64 (Int.ofNat 0), S [], .bool false, .bool false]) h') : W1 (.func 8) [v] h k := by
  refine w8 (n := 4) sw_ok (g8 ?_)
  unfold s8_0
  rw [hr.tlen]
  refine or_q (b := false) (fun k' hk' => ?_) ?_
  · rw [hr.tlen]; exact hk'
  refine cnd_f rfl ?_
  refine hr.tok (i := 0) (Nat.zero_lt_succ _) ?_
  refine c18 (x := x) hx hs hne hl hv fun h1 x1 => ?_
  have r1 := hr.ext x1
  rw [asI_k, ieqN]
  have hk := hk h1 x1
  by_cases e : 1 ≤ valN 10 0 x.text ∧ valN 10 0 x.text ≤ 2147483647
  · rw [if_pos e] at hk
    rw [if_pos e.2, decide_eq_false (by omega)]
    refine cnd_f rfl ?_
    rw [r1.tlen]
    refine cnd_f rfl ?_
    refine r1.kind (i := 1) (Nat.lt_succ_self 1) ?_
    rw [asI_k, ieqN, decide_eq_true (show [x, y][1].kind = 4 from hy)]
    refine or_i (fun _ => ?_) (fun e => nomatch e)
    refine r1.text (i := 1) (Nat.lt_succ_self 1) ?_
    rw [asS_s, show [x, y][1].text = 34 :: (s ++ [34]) from hyt]
    refine use2 (c19 (34 :: (s ++ [34])) [34]) ?_
    rw [asB_b, pre34]
    refine cnd_f rfl ?_
    refine r1.text (i := 1) (Nat.lt_succ_self 1) ?_
    rw [asS_s, show [x, y][1].text = 34 :: (s ++ [34]) from hyt]
    refine use2 (c20 (34 :: (s ++ [34])) (by simp; omega)) ?_ rfl (by rw [bytL_plain hsq]; rfl)
    rw [bytL_plain hsq]
    unfold bytV
    rw [ext_0, asS_s, ext_1, asB_b]
    refine cnd_t rfl ?_
    exact hk
  · rw [if_neg e] at hk
    have : (if valN 10 0 x.text ≤ 2147483647 then valN 10 0 x.text else 0) = 0 := by
      by_cases e2 : valN 10 0 x.text ≤ 2147483647
      · rw [if_pos e2]; omega
      · rw [if_neg e2]
    rw [this]
    refine cnd_t rfl ?_
    refine j8_1 ?_
    unfold s8_1
    exact hk
end Go.Den
