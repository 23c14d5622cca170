/-
  A part of the proof: PnumChars, from its arguments on.
-/
import Derived.Test.YtdpnnajfmkpfjaaDoorBytc
namespace Go.Den
open Go.RowKit
set_option maxRecDepth 100000
theorem all8 {P : UInt8 → Bool} (h : (List.range 256).all (fun i => P (UInt8.ofNat i)) = true) (b : UInt8) : P b = true := by
  have := List.all_eq_true.1 h b.toNat (List.mem_range.2 b.toNat_lt)
  rwa [UInt8.ofNat_toNat] at this
def od1 (b : UInt8) : UInt8 := UInt8.ofNat (48 + b.toNat / 64)
def od2 (b : UInt8) : UInt8 := UInt8.ofNat (48 + b.toNat / 8 % 8)
def od3 (b : UInt8) : UInt8 := UInt8.ofNat (48 + b.toNat % 8)
/-- a byte, in eight -/
def ow (b : UInt8) : List UInt8 := [92, od1 b, od2 b, od3 b]
def octS (l : List UInt8) : List UInt8 := l.flatMap ow
theorem ow_facts (b : UInt8) : od1 b ∈ octL ∧ od2 b ∈ octL ∧ od3 b ∈ octL ∧ UInt8.ofNat (valF 8 0 (lowS [od1 b, od2 b, od3 b])) = b := by
  have h := all8 (P := fun b => octL.contains (od1 b) && octL.contains (od2 b) && octL.contains (od3 b) && (UInt8.ofNat (valF 8 0 (lowS [od1 b, od2 b, od3 b])) == b)) (by kernel_rfl) b
  simp only [Bool.and_eq_true, List.contains_iff_mem, beq_iff_eq] at h
  exact ⟨h.1.1.1, h.1.1.2, h.1.2, h.2⟩
theorem oct_esc : ∀ x ∈ octL, x ∉ escIn ∧ x ≠ 120 := by decide
theorem esc_oct {a b c : UInt8} (ha : a ∈ octL) (hb : b ∈ octL) (hc : c ∈ octL) (rest : List UInt8) : escL (a :: b :: c :: rest) = (UInt8.ofNat (valF 8 0 (lowS [a, b, c])), 3) := by
  obtain ⟨h1, h2⟩ := oct_esc a ha
  have e : escL (a :: b :: c :: rest) = numE (a :: b :: c :: rest) (min (runL (a :: b :: c :: rest) octL) 3) 0 8 := by
    show (match simpE a with | some y => (y, 1) | none => _) = _
    rw [simp_out h1]; exact if_neg h2
  have hr : runL (a :: b :: c :: rest) octL = 3 + runL rest octL := by
    unfold runL
    rw [List.takeWhile_cons, if_pos (by simpa using ha), List.takeWhile_cons, if_pos (by simpa using hb), List.takeWhile_cons, if_pos (by simpa using hc)]
    simp; omega
  rw [e, hr, Nat.min_eq_right (by omega)]
  unfold numE
  rw [if_neg (by decide)]
  rfl
theorem bodyL_ow {q : UInt8} (hq : q ≠ 92) (b : UInt8) (n : Nat) (rest : List UInt8) : bodyL q (n + 1) (ow b ++ rest) = (bodyL q n rest).map (b :: ·) := by
  obtain ⟨h1, h2, h3, h4⟩ := ow_facts b
  have e := esc_oct h1 h2 h3 rest
  show (if (92 : UInt8) = q then none else if (92 : UInt8) = 92 then (if (escL (od1 b :: od2 b :: od3 b :: rest)).2 = 0 then none else (bodyL q n ((od1 b :: od2 b :: od3 b :: rest).drop (escL (od1 b :: od2 b :: od3 b :: rest)).2)).map ((escL (od1 b :: od2 b :: od3 b :: rest)).1 :: ·)) else _) = _
  rw [if_neg (fun h => hq h.symm), if_pos rfl, e, h4, if_neg (show ¬ 3 = 0 by decide)]
  rfl
theorem bodyL_oct {q : UInt8} (hq : q ≠ 92) (tail : List UInt8) : ∀ (l : List UInt8) (n m : Nat), (octS l ++ tail).length < n → tail.length < m → bodyL q n (octS l ++ tail) = (bodyL q m tail).map (l ++ ·)
  | [], n, m, h1, h2 => by
    rw [show octS [] ++ tail = tail from rfl, bodyL_fuel n m tail h1 h2]
    cases bodyL q m tail <;> rfl
  | b :: l, n, m, h1, h2 => by
    have e : octS (b :: l) ++ tail = ow b ++ (octS l ++ tail) := by unfold octS; rw [List.flatMap_cons, List.append_assoc]
    rw [e] at h1 ⊢
    obtain ⟨n, rfl⟩ : ∃ n', n = n' + 1 := ⟨n - 1, by omega⟩
    rw [bodyL_ow hq, bodyL_oct hq tail l n m (by rw [List.length_append] at h1; have : (ow b).length = 4 := rfl; omega) h2]
    cases bodyL q m tail <;> rfl
theorem quoted_oct {q : UInt8} (hq : q ≠ 92) (l : List UInt8) : quotedL (q :: (octS l ++ [q])) = some l := by
  have h1 : octS l ++ [q] ≠ [] := by simp
  have h2 : (octS l ++ [q]).getLast? = some q := by simp
  show (if octS l ++ [q] = [] then none else if (octS l ++ [q]).getLast? = some q then bodyL q ((octS l ++ [q]).length + 1) (octS l ++ [q]).dropLast else none) = _
  rw [if_neg h1, if_pos h2, List.dropLast_concat]
  have := bodyL_oct hq [] l ((octS l ++ [q]).length + 1) 1 (by simp; omega) (by decide)
  rw [List.append_nil] at this
  rw [this]
  show some (l ++ []) = _
  rw [List.append_nil]
def pre4 : List (List UInt8) := [[], [76], [117], [85]]
theorem let4 {p : List UInt8} (hp : p ∈ pre4) (X : List UInt8) : lettersL (p ++ 39 :: X) = (p, true) := by
  simp only [pre4, List.mem_cons, List.not_mem_nil, or_false] at hp
  rcases hp with rfl | rfl | rfl | rfl <;> rfl
theorem char4 {p : List UInt8} (hp : p ∈ pre4) {l : List UInt8} (hl : l ≠ []) : charL (p ++ 39 :: (octS l ++ [39])) = if 8 < l.length then none else some (wrap .u64 (cvI l), decide (p = [117]) || decide (p = [85])) := by
  have h1 := let4 hp (octS l ++ [39])
  have h2 : bytL (p ++ 39 :: (octS l ++ [39])) = some l := by
    unfold bytL
    rw [h1, if_pos rfl]
    show quotedL (List.drop p.length (p ++ 39 :: (octS l ++ [39]))) = _
    rw [List.drop_left]
    exact quoted_oct (by decide) l
  have h3 : p ≠ [117, 56] := by
    simp only [pre4, List.mem_cons, List.not_mem_nil, or_false] at hp
    rcases hp with rfl | rfl | rfl | rfl <;> decide
  unfold charL
  rw [h2, h1]
  show (if p = [117, 56] ∨ ¬ (List.drop p.length (p ++ 39 :: (octS l ++ [39]))).head? = some 39 ∨ l = [] ∨ 8 < l.length then none else some (wrap .u64 (cvI l), decide (p = [117]) || decide (p = [85]))) = _
  rw [List.drop_left]
  by_cases h : 8 < l.length
  · rw [if_pos h, if_pos (.inr (.inr (.inr h)))]
  · rw [if_neg h, if_neg]
    rintro (h' | h' | h' | h')
    · exact h3 h'
    · exact h' rfl
    · exact hl h'
    · exact h h'
theorem char_u8 (l : List UInt8) : charL ([117, 56, 39] ++ octS l ++ [39]) = none := by
  have h1 : lettersL ([117, 56, 39] ++ octS l ++ [39]) = ([117, 56], true) := rfl
  unfold charL
  cases bytL ([117, 56, 39] ++ octS l ++ [39]) with
  | none => rfl
  | some l => rw [h1]; exact if_pos (.inl rfl)
theorem char_34 (l : List UInt8) : charL ([34] ++ octS l ++ [34]) = none := by
  have h1 : lettersL ([34] ++ octS l ++ [34]) = ([], true) := rfl
  unfold charL
  cases bytL ([34] ++ octS l ++ [34]) with
  | none => rfl
  | some m =>
    rw [h1]
    refine if_pos (.inr (.inl ?_))
    show ¬ some (34 : UInt8) = some 39
    decide
/-! ### The walk -/
noncomputable def T3b (a b c : Int) : Tm := tlist [.int .u8 c] 2 (tlist [.int .u8 b] 1 (tlist [.int .u8 a] 0 (tlist [.int .u8 (.ofNat 0), .int .u8 (.ofNat 0), .int .u8 (.ofNat 0)] 0 .e)))
theorem bld3 (a b c : Int) (h : H) : withElem env 37 (fun e ei => exBuildSlice 3 [(0, (.int .u8 a)), (1, (.int .u8 b)), (2, (.int .u8 c))] h e ei) = some (.slice h.next 0 3 1 true, h.new (.row (T3b a b c) 3 0 TB true)) := by kernel_rfl
theorem are3 (x y z : UInt8) : CellsAre (T3b (Int.ofNat x.toNat) (Int.ofNat y.toNat) (Int.ofNat z.toNat)) [x, y, z] := by
  intro i hi
  unfold T3b
  match i, hi with
  | 0, _ => rw [tget_tlist, if_neg (by simp), tget_tlist, if_neg (by simp), tget_tlist]; rfl
  | 1, _ => rw [tget_tlist, if_neg (by simp), tget_tlist]; rfl
  | 2, _ => rw [tget_tlist]; rfl
theorem asI_ub {x : UInt8} {K : Int → Prop} : asI .u8 (ub x) K = K (Int.ofNat x.toNat) := rfl
noncomputable def T4 : Tm := Option.rec .e (fun t => t) (fillL (placeA 1) 4 [(0, .str 0 0), (1, .str 1 76), (2, .str 1 117), (3, .str 1 85)] (tlist (repl [.str 0 0] 4) 0 .e))
theorem b4 (h : H) : withElem env 35 (fun e ei => exBuildSlice 4 [(0, (.str 0 0)), (1, (.str 1 76)), (2, (.str 1 117)), (3, (.str 1 85))] h e ei) = some (.slice h.next 0 4 1 true, h.new (.row T4 4 0 9 true)) := by kernel_rfl
theorem pick4 {h : H} {b : P} (ha : h.at b = .row T4 4 0 9 true) {r : Nat} (hr : r < 4) {K : Nat → Nat → Prop} (hk : ∀ t ∈ pre4, K t.length (enc t)) : elemA 1 r (.slice b 0 4 1 true) fun v => ld1 v h fun v => asS v K := by
  have key : ∀ t, t ∈ pre4 → tget T4 r = S t → elemA 1 r (.slice b 0 4 1 true) fun v => ld1 v h fun v => asS v K := by
    intro t ht e
    have hb : elemA 1 r (.slice b 0 4 1 true) (fun v => ld1 v h fun v => asS v K) = ld1 (.ptr b r) h fun v => asS v K := by
      match r, hr with
      | 0, _ | 1, _ | 2, _ | 3, _ => rfl
    rw [hb]
    refine ld1_i ha hr ?_
    rw [e]
    exact hk t ht
  match r, hr with
  | 0, _ => exact key [] (by decide) (by kernel_rfl)
  | 1, _ => exact key [76] (by decide) (by kernel_rfl)
  | 2, _ => exact key [117] (by decide) (by kernel_rfl)
  | 3, _ => exact key [85] (by decide) (by kernel_rfl)
/-- a new variable of type Int, filled -/
theorem new2 {h : H} {a b : AV} {K : H → Prop} (hk : ∀ h', h'.at h.next = .row (tlist [a, b] 0 (tlist [.int .u64 (Int.ofNat 0), .bool false] 0 .e)) 2 0 25 true → h'.next.nat = h.next.nat + 1 → (∀ c, c.nat < h.next.nat → h'.at c = h.at c) → K h') : stn 2 (.ptr h.next 0) (.agg [a, b]) (h.new ob25) K := by
  refine stn_i (at_new_same h ob25) (Nat.le_refl _) rfl (by decide) (by decide) ?_
  refine hk _ (at_put_same _ _ _) (next_new (o := ob25)) fun c hc => ?_
  rw [at_put_o (fun e => by subst e; exact absurd hc (Nat.lt_irrefl _)), at_new_o hc]
theorem Bys.frame {h h' : H} {v : AV} {l : List UInt8} (hb : Bys h v l) (hn : h'.next.nat = h.next.nat + 1) (hf : ∀ c, c.nat < h.next.nat → h'.at c = h.at c) : Bys h' v l := hb.mono (by omega) fun b _ _ _ h1 => hf b h1
theorem eql25 (n m : Int) (x y : Bool) : binA env .eql 25 (.agg [.int .u64 n, .bool x]) (.agg [.int .u64 m, .bool y]) = eqAns (Bool.rec (some false) (Bool.rec (some false) (some true) (beqB x y)) (ibeq n m)) := by kernel_rfl
theorem eql25_self (n : Int) (x : Bool) : binA env .eql 25 (.agg [.int .u64 n, .bool x]) (.agg [.int .u64 n, .bool x]) = some (.bool true) := by
  rw [eql25, beqB_self, show ibeq n n = true by rw [ibeq_eq]; simp]; rfl
noncomputable abbrev kT : KV := fun r _ => r = .bool true
theorem c7_3 {v : AV} {l p : List UInt8} {b : P} {h : H} {t : Tm} {n : Int} {m : Nat} (ha : h.at b = .row (tlist [.int .u64 (wrap .u64 n), .bool (decide (p = [117]) || decide (p = [85]))] 0 t) 2 0 25 true) : (r7 W1 kT (m + 1)).a3 p.length (enc p) (.ptr b 0) true false false n h := by
  refine j7_3 ?_
  unfold s7_3
  refine and_q (b := true) (fun k' hk' => ?_) ?_
  · refine ldn_i ha (by decide) ?_
    rw [gc2, fI_eq]
    refine or_b ?_
    rw [eq117, eq85, b25v, oK_some, eql25_self, oV_some, asB_b]
    exact hk'
  refine and_b ?_
  refine and_b ?_
  refine and_q (b := true) (fun k' hk' => ?_) ?_
  · refine use2 c8 ?_
    rw [asB_b]
    exact hk'
  rfl
theorem c7_2 {v : AV} {l p : List UInt8} {b : P} {h : H} {t : Tm} (hb : Bys h v l) (hl : l.length ≤ 100) (ha : ∀ n', n' = wrap .i64 (wrap .i32 (Int.ofNat (allF 0 l))) → h.at b = .row (tlist [.int .u64 (wrap .u64 n'), .bool (decide (p = [117]) || decide (p = [85]))] 0 t) 2 0 25 true) : ∀ (n i u : Nat), l.length - i + 2 ≤ n → i ≤ l.length → allF u (l.drop i) = allF 0 l →
    (r7 W1 kT n).a2 v p.length (enc p) (.ptr b 0) true false false (Int.ofNat u) (Int.ofNat i) h
  | 0, _, _, hn, _, _ => absurd hn (by omega)
  | n + 1, i, u, hn, hi, hu => by
    refine j7_2 ?_
    unfold s7_2
    rw [hb.len, ilt]
    refine cnd_i (fun e => ?_) (fun e => ?_)
    · have e : i < l.length := of_decide_eq_true e
      have hd : l.drop i = l[i] :: l.drop (i + 1) := List.drop_eq_getElem_cons e
      have hx := (l[i]).toNat_lt
      rw [shl8, natI_eq]
      refine hb.get e ?_
      rw [asI_ub, wrap32 (by omega), fI_eq, lor32 (Nat.mod_lt _ (by decide)) (by omega), iadd1 (by omega), fI_eq]
      rw [hd] at hu
      exact c7_2 hb hl ha n (i + 1) _ (by omega) e hu
    · have hd : l.drop i = [] := by
        have : ¬ i < l.length := of_decide_eq_false e
        rw [List.drop_eq_nil_iff]; omega
      rw [hd] at hu
      have hu : u = allF 0 l := hu
      obtain ⟨n, rfl⟩ : ∃ n', n = n' + 1 := ⟨n - 1, by omega⟩
      rw [fI_eq, fI_eq, hu]
      exact c7_3 (v := v) (l := l) (ha _ rfl)
theorem c7_4 {v : AV} {l p : List UInt8} {b : P} {h : H} {t : Tm} {ok : Bool} {m : Nat} (hb : Bys h v l) (hl : l ≠ []) (hl9 : l.length ≤ 9) (hok : ok = !decide (8 < l.length)) (ha : ok = true → h.at b = .row (tlist [.int .u64 (wrap .u64 (cvI l)), .bool (decide (p = [117]) || decide (p = [85]))] 0 t) 2 0 25 true) (hm : 20 ≤ m) :
    (r7 W1 kT (m + 1)).a4 v p.length (enc p) (.ptr b 0) ok false false h := by
  refine j7_4 ?_
  unfold s7_4
  rw [hb.len, ilt]
  refine cnd_i (fun e => ?_) (fun e => ?_)
  · rw [e] at hok
    subst hok
    refine and_q (b := true) (fun k' hk' => ?_) ?_
    · refine use2 c8 ?_
      rw [asB_b]
      exact hk'
    rfl
  · rw [e] at hok
    subst hok
    have ha := ha rfl
    have hpos : 0 < l.length := by
      cases l with
      | nil => exact absurd rfl hl
      | cons _ _ => simp
    refine hb.get hpos ?_
    rw [asI_ub, fI_eq, fI_eq, hb.len, ilt]
    obtain ⟨m, rfl⟩ : ∃ m', m = m' + 1 := ⟨m - 1, by omega⟩
    refine cnd_i (fun e5 => ?_) (fun e5 => ?_)
    · have e5 : 1 < l.length := of_decide_eq_true e5
      refine c7_2 (t := t) hb (by omega) (fun n' hn' => ?_) _ 0 0 (by omega) (Nat.zero_le _) rfl
      unfold cvI at ha
      rw [if_pos e5] at ha
      rw [hn']; exact ha
    · have e5 : ¬ 1 < l.length := of_decide_eq_false e5
      refine c7_3 (v := v) (l := l) (t := t) ?_
      unfold cvI at ha
      rw [if_neg e5] at ha
      have : l.headD 0 = l[0] := by
        cases l with
        | nil => exact absurd rfl hl
        | cons _ _ => rfl
      rw [this] at ha
      exact ha
theorem octS_len (l : List UInt8) : (octS l).length = 4 * l.length := by
  induction l with
  | nil => rfl
  | cons b l ih =>
    have e : octS (b :: l) = ow b ++ octS l := by unfold octS; rw [List.flatMap_cons]
    rw [e, List.length_append, ih]
    have : (ow b).length = 4 := rfl
    rw [List.length_cons]; omega
theorem pre4_len {p : List UInt8} (hp : p ∈ pre4) : p.length ≤ 1 := by
  simp only [pre4, List.mem_cons, List.not_mem_nil, or_false] at hp
  rcases hp with rfl | rfl | rfl | rfl <;> decide
theorem c7_1 {v : AV} {l : List UInt8} {how : Int} (hl : l ≠ []) (hl9 : l.length ≤ 9) : ∀ (n i : Nat) (h : H), Bys h v l → l.length - i + 30 ≤ n → i ≤ l.length → (r7 W1 kT n).a1 v how (octS (l.take i)).length (enc (octS (l.take i))) (Int.ofNat i) h
  | 0, _, _, _, hn, _ => absurd hn (by omega)
  | n + 1, i, h, hb, hn, hi => by
    refine j7_1 ?_
    unfold s7_1
    rw [hb.len, ilt]
    refine cnd_i (fun e => ?_) (fun e => ?_)
    · have e : i < l.length := of_decide_eq_true e
      have hx := (l[i]).toNat_lt
      have hol := octS_len (l.take i)
      rw [List.length_take] at hol
      refine catS_i (t := [92]) (by rw [List.length_singleton]; omega) ?_
      rw [natI_eq]
      refine hb.get e ?_
      rw [asI_ub, quo8 hx (by decide), add48 (by omega), fI_eq, natI_eq]
      refine hb.get e ?_
      rw [asI_ub, quo8 hx (by decide), remN (by decide), add48 (by omega), fI_eq, natI_eq]
      refine hb.get e ?_
      rw [asI_ub, remN (by decide), add48 (by omega), fI_eq, bld3, oK_some]
      have hcv := conv_row (h := h.new (.row (T3b (Int.ofNat (od1 l[i]).toNat) (Int.ofNat (od2 l[i]).toNat) (Int.ofNat (od3 l[i]).toNat)) 3 0 TB true)) (ti := true) (l := [od1 l[i], od2 l[i], od3 l[i]]) (at_new_same _ _) (Nat.le_refl 3) (are3 (od1 l[i]) (od2 l[i]) (od3 l[i]))
      rw [show convA env (h.new (.row (T3b (Int.ofNat (UInt8.ofNat (48 + (l[i]).toNat / 64)).toNat) (Int.ofNat (UInt8.ofNat (48 + (l[i]).toNat / 8 % 8)).toNat) (Int.ofNat (UInt8.ofNat (48 + (l[i]).toNat % 8)).toNat)) 3 0 TB true)) 37 9 (.slice h.next 0 3 1 true) = _ from hcv, oK_some, asS_s]
      refine catS_i (by rw [List.length_append]; simp; omega) ?_
      rw [iadd1 (by omega), fI_eq]
      have et : octS (l.take (i + 1)) = octS (l.take i) ++ [92] ++ [od1 l[i], od2 l[i], od3 l[i]] := by
        rw [List.take_add_one, List.getElem?_eq_getElem e]
        unfold octS
        rw [List.flatMap_append]
        simp [ow]
      rw [← et]
      exact c7_1 hl hl9 n (i + 1) _ hb.new (by omega) e
    · have e : i = l.length := by
        have : ¬ i < l.length := of_decide_eq_false e
        omega
      subst e
      rw [List.take_length, b4, oK_some]
      have hol := octS_len l
      obtain ⟨r, hr, cr⟩ := c18 how (m := 4) (by decide) (by decide)
      refine use2 cr ?_
      rw [asI_k, natI_eq]
      refine pick4 (at_new_same _ _) hr fun p hp => ?_
      have hpl := pre4_len hp
      refine catS_i (t := [39]) (by simp; omega) ?_
      refine catS_i (by simp; omega) ?_
      refine catS_i (t := [39]) (by simp; omega) ?_
      have e1 : p ++ [39] ++ octS l ++ [39] = p ++ 39 :: (octS l ++ [39]) := by simp
      rw [e1]
      have hb1 : Bys (h.new (.row T4 4 0 9 true)) v l := hb.new
      have pl : ∀ o, plain (charV o) = true := by intro o; cases o <;> rfl
      refine use2 (c11 _ (by simp; omega)) ?_ rfl (pl _)
      have cv : ∀ o : Option (Int × Bool), ∃ a b, charV o = .tuple [.agg [.int .u64 a, .bool b], .bool o.isSome] ∧ ∀ x y, o = some (x, y) → a = x ∧ b = y := by
        intro o
        cases o with
        | none => exact ⟨Int.ofNat 0, false, rfl, fun x y h => by cases h⟩
        | some p => exact ⟨p.1, p.2, rfl, fun x y h => by cases h; exact ⟨rfl, rfl⟩⟩
      obtain ⟨a, b, e2, e3⟩ := cv (charL (p ++ 39 :: (octS l ++ [39])))
      rw [e2, ext_0, ext_1, asB_b]
      refine newK_i ?_
      refine new2 fun h2 a2 n2 f2 => ?_
      have hb2 := hb1.frame n2 f2
      refine catS_i (s := [117, 56, 39]) (by simp; omega) ?_
      refine catS_i (t := [39]) (by simp; omega) ?_
      refine use2 (c11 _ (by simp; omega)) ?_ rfl (pl _)
      rw [char_u8]
      show ext 0 (.tuple [.agg [.int .u64 (Int.ofNat 0), .bool false], .bool false]) _
      rw [ext_0]
      show ext 1 (.tuple [.agg [.int .u64 (Int.ofNat 0), .bool false], .bool false]) _
      rw [ext_1, asB_b]
      refine newK_i ?_
      refine new2 fun h3 a3 n3 f3 => ?_
      have hb3 := hb2.frame n3 f3
      refine catS_i (s := [34]) (by simp; omega) ?_
      refine catS_i (t := [34]) (by simp; omega) ?_
      refine use2 (c11 _ (by simp; omega)) ?_ rfl (pl _)
      rw [char_34]
      show ext 0 (.tuple [.agg [.int .u64 (Int.ofNat 0), .bool false], .bool false]) _
      rw [ext_0]
      show ext 1 (.tuple [.agg [.int .u64 (Int.ofNat 0), .bool false], .bool false]) _
      rw [ext_1, asB_b]
      refine newK_i ?_
      refine new2 fun h4 a4 n4 f4 => ?_
      have hb4 := hb3.frame n4 f4
      obtain ⟨n, rfl⟩ : ∃ n', n = n' + 1 := ⟨n - 1, by omega⟩
      have ec := char4 hp hl
      refine c7_4 (t := tlist [.int .u64 (Int.ofNat 0), .bool false] 0 .e) hb4 hl hl9 ?_ (fun hok => ?_) (by omega)
      · rw [ec]
        by_cases h : 8 < l.length
        · rw [if_pos h, decide_eq_true h]; rfl
        · rw [if_neg h, decide_eq_false h]; rfl
      · have h8 : ¬ 8 < l.length := fun h => by rw [ec, if_pos h] at hok; cases hok
        rw [if_neg h8] at ec
        obtain ⟨ea, eb⟩ := e3 _ _ ec
        rw [f4 _ (by rw [n3, n2]; omega), f3 _ (by rw [n2]; omega), a2, ea, eb]
theorem c7 {v : AV} {l : List UInt8} {how : Int} {h : H} (hb : Bys h v l) : W1 (.func 7) [v, .int .i64 how] h kT := by
  refine w7 (n := 60) sw_ok (g7 ?_)
  unfold s7_0
  rw [hb.len, ieqN]
  refine or_q (b := decide (9 < l.length)) (fun k' hk' => ?_) ?_
  · rw [hb.len, ilt]; exact hk'
  refine cnd_i (fun _ => ?_) (fun e => ?_)
  · refine use2 c8 ?_
    rw [asB_b]
  · simp only [Bool.or_eq_false_iff, decide_eq_false_iff_not] at e
    have hl : l ≠ [] := fun h => e.1 (by rw [h]; rfl)
    have hl9 : l.length ≤ 9 := by omega
    exact c7_1 hl hl9 59 0 h hb (by omega) (Nat.zero_le _)
end Go.Den
