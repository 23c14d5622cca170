/-
  A part of the proof: PnumBytes, from its arguments on.
-/
import Derived.Test.YtdpnnajfmkpfjaaDoorChr
namespace Go.Den
open Go.RowKit
set_option maxRecDepth 100000
def spec4 : List UInt8 := [34, 39, 92, 63]
def hexU : List UInt8 := [48, 49, 50, 51, 52, 53, 54, 55, 56, 57, 65, 66, 67, 68, 69, 70]
def hx1' (c : UInt8) : UInt8 := hexU.getD (c.toNat / 16) 0
def hx2' (c : UInt8) : UInt8 := lowX.getD (c.toNat % 16) 0
/-- bytes, and how they are written -/
inductive Enc : List UInt8 → List UInt8 → Prop where
  | nil : Enc [] []
  | spec {c : UInt8} {l s : List UInt8} (hc : c ∈ spec4) (h : Enc l s) : Enc (c :: l) (92 :: c :: s)
  | nl {l s : List UInt8} (h : Enc l s) : Enc (10 :: l) (92 :: 110 :: s)
  | oct {c : UInt8} {l s : List UInt8} (h : Enc l s) : Enc (c :: l) (ow c ++ s)
  | hex {c : UInt8} : Enc [c] [92, 120, hx1' c, hx2' c]
  | raw {c : UInt8} {l s : List UInt8} (hc : c ∉ spec4) (h : Enc l s) : Enc (c :: l) (c :: s)
theorem hex_facts (c : UInt8) : hx1' c ∈ hexL ∧ hx2' c ∈ hexL ∧ UInt8.ofNat (valF 16 0 (lowS [hx1' c, hx2' c])) = c := by
  have h := all8 (P := fun c => hexL.contains (hx1' c) && hexL.contains (hx2' c) && (UInt8.ofNat (valF 16 0 (lowS [hx1' c, hx2' c])) == c)) (by kernel_rfl) c
  simp only [Bool.and_eq_true, List.contains_iff_mem, beq_iff_eq] at h
  exact ⟨h.1.1, h.1.2, h.2⟩
theorem spec_simp : ∀ c ∈ spec4, simpE c = some c := by decide
def tails3 : List (List UInt8) := [[], [92], [34]]
theorem esc_hex (c : UInt8) {tail : List UInt8} (ht : tail ∈ tails3) : escL (120 :: hx1' c :: hx2' c :: tail) = (c, 3) := by
  obtain ⟨h1, h2, h3⟩ := hex_facts c
  have e : escL (120 :: hx1' c :: hx2' c :: tail) = numE (120 :: hx1' c :: hx2' c :: tail) (1 + runL (hx1' c :: hx2' c :: tail) hexL) 1 16 := rfl
  have ht0 : runL tail hexL = 0 := by
    simp only [tails3, List.mem_cons, List.not_mem_nil, or_false] at ht
    rcases ht with rfl | rfl | rfl <;> rfl
  have hr : runL (hx1' c :: hx2' c :: tail) hexL = 2 := by
    unfold runL at ht0 ⊢
    rw [List.takeWhile_cons, if_pos (by simpa using h1), List.takeWhile_cons, if_pos (by simpa using h2)]
    simp only [List.length_cons, ht0]
  rw [e, hr]
  unfold numE
  rw [if_neg (by decide)]
  show (UInt8.ofNat (valF 16 0 (lowS [hx1' c, hx2' c])), 3) = _
  rw [h3]
theorem bodyL_step {q c : UInt8} {r : List UInt8} {n : Nat} (hq : q ≠ 92) {y : UInt8} {j : Nat} (h : escL r = (y, j + 1)) (hc : c = 92) : bodyL q (n + 1) (c :: r) = (bodyL q n (r.drop (j + 1))).map (y :: ·) := by
  subst hc
  show (if (92 : UInt8) = q then none else if (92 : UInt8) = 92 then (if (escL r).2 = 0 then none else (bodyL q n (r.drop (escL r).2)).map ((escL r).1 :: ·)) else _) = _
  rw [if_neg (fun h => hq h.symm), if_pos rfl, h, if_neg (show ¬ j + 1 = 0 by omega)]
theorem escL_simp {c y : UInt8} (h : simpE c = some y) (r : List UInt8) : escL (c :: r) = (y, 1) := by
  show (match simpE c with | some y => (y, 1) | none => _ : UInt8 × Nat) = _
  rw [h]
theorem map_cons_app {o : Option (List UInt8)} {c : UInt8} {l : List UInt8} : (o.map (l ++ ·)).map (c :: ·) = o.map ((c :: l) ++ ·) := by cases o <;> rfl
theorem bodyL_enc {q : UInt8} (hq : q = 34 ∨ q = 39) {tail : List UInt8} (ht : tail ∈ tails3) {m : Nat} (hm : tail.length < m) {l s : List UInt8} (h : Enc l s) : ∀ n, (s ++ tail).length < n → bodyL q n (s ++ tail) = (bodyL q m tail).map (l ++ ·) := by
  have hq92 : q ≠ 92 := by rcases hq with rfl | rfl <;> decide
  induction h with
  | nil =>
    intro n hn
    rw [List.nil_append] at hn ⊢
    rw [bodyL_fuel n m tail hn hm]
    cases bodyL q m tail <;> rfl
  | @spec c l s hc h ih =>
    intro n hn
    obtain ⟨n, rfl⟩ : ∃ n', n = n' + 1 := ⟨n - 1, by simp at hn; omega⟩
    show bodyL q (n + 1) (92 :: (c :: (s ++ tail))) = _
    rw [bodyL_step hq92 (escL_simp (spec_simp c hc) _) rfl]
    show (bodyL q n (s ++ tail)).map _ = _
    rw [ih n (by simp at hn ⊢; omega), map_cons_app]
  | @nl l s h ih =>
    intro n hn
    obtain ⟨n, rfl⟩ : ∃ n', n = n' + 1 := ⟨n - 1, by simp at hn; omega⟩
    show bodyL q (n + 1) (92 :: (110 :: (s ++ tail))) = _
    rw [bodyL_step hq92 (escL_simp (show simpE 110 = some 10 from rfl) _) rfl]
    show (bodyL q n (s ++ tail)).map _ = _
    rw [ih n (by simp at hn ⊢; omega), map_cons_app]
  | @oct c l s h ih =>
    intro n hn
    obtain ⟨n, rfl⟩ : ∃ n', n = n' + 1 := ⟨n - 1, by simp at hn; omega⟩
    rw [List.append_assoc, bodyL_ow hq92, ih n (by simp [ow] at hn ⊢; omega), map_cons_app]
  | @hex c =>
    intro n hn
    obtain ⟨n, rfl⟩ : ∃ n', n = n' + 1 := ⟨n - 1, by simp at hn; omega⟩
    show bodyL q (n + 1) (92 :: (120 :: hx1' c :: hx2' c :: tail)) = _
    rw [bodyL_step hq92 (esc_hex c ht) rfl]
    show (bodyL q n tail).map _ = _
    rw [bodyL_fuel n m tail (by simp at hn; omega) hm]
    rfl
  | @raw c l s hc h ih =>
    intro n hn
    obtain ⟨n, rfl⟩ : ∃ n', n = n' + 1 := ⟨n - 1, by simp at hn; omega⟩
    have h1 : c ≠ q := fun e => hc (by subst e; rcases hq with rfl | rfl <;> decide)
    have h2 : c ≠ 92 := fun e => hc (by subst e; decide)
    show (if c = q then none else if c = 92 then _ else (bodyL q n (s ++ tail)).map (c :: ·)) = _
    rw [if_neg h1, if_neg h2, ih n (by simp at hn ⊢; omega), map_cons_app]
theorem quoted_enc {q : UInt8} (hq : q = 34 ∨ q = 39) {tail : List UInt8} (ht : tail ∈ tails3) {l s : List UInt8} (h : Enc l s) : quotedL (q :: (s ++ tail ++ [q])) = (bodyL q 2 tail).map (l ++ ·) := by
  have h1 : s ++ tail ++ [q] ≠ [] := by simp
  have h2 : (s ++ tail ++ [q]).getLast? = some q := by simp
  show (if s ++ tail ++ [q] = [] then none else if (s ++ tail ++ [q]).getLast? = some q then bodyL q ((s ++ tail ++ [q]).length + 1) (s ++ tail ++ [q]).dropLast else none) = _
  rw [if_neg h1, if_pos h2, List.dropLast_concat]
  refine bodyL_enc hq ht ?_ h _ (by simp; omega)
  simp only [tails3, List.mem_cons, List.not_mem_nil, or_false] at ht
  rcases ht with rfl | rfl | rfl <;> decide
section
variable {l s : List UInt8} (h : Enc l s)
include h
theorem b_x : bytL ([34] ++ s ++ [34]) = some l := by
  have e : [34] ++ s ++ [34] = 34 :: (s ++ [] ++ [34]) := by simp
  have h1 : lettersL (34 :: (s ++ [] ++ [34])) = ([], true) := rfl
  unfold bytL
  rw [e, h1, if_pos rfl]
  show quotedL (34 :: (s ++ [] ++ [34])) = _
  rw [quoted_enc (.inl rfl) (by decide) h]
  show some (l ++ []) = _
  rw [List.append_nil]
theorem b_y : bytL ([117, 56, 34] ++ s ++ [34]) = some l := by
  have e : [117, 56, 34] ++ s ++ [34] = 117 :: 56 :: 34 :: (s ++ [] ++ [34]) := by simp
  have h1 : lettersL (117 :: 56 :: 34 :: (s ++ [] ++ [34])) = ([117, 56], true) := rfl
  unfold bytL
  rw [e, h1, if_pos rfl]
  show quotedL (34 :: (s ++ [] ++ [34])) = _
  rw [quoted_enc (.inl rfl) (by decide) h]
  show some (l ++ []) = _
  rw [List.append_nil]
theorem b_z : bytL ([76, 39] ++ s ++ [39]) = some l := by
  have e : [76, 39] ++ s ++ [39] = 76 :: 39 :: (s ++ [] ++ [39]) := by simp
  have h1 : lettersL (76 :: 39 :: (s ++ [] ++ [39])) = ([76], true) := rfl
  unfold bytL
  rw [e, h1, if_pos rfl]
  show quotedL (39 :: (s ++ [] ++ [39])) = _
  rw [quoted_enc (.inr rfl) (by decide) h]
  show some (l ++ []) = _
  rw [List.append_nil]
theorem b_no : bytL ([34] ++ s ++ [92, 34]) = none := by
  have e : [34] ++ s ++ [92, 34] = 34 :: (s ++ [92] ++ [34]) := by simp
  have h1 : lettersL (34 :: (s ++ [92] ++ [34])) = ([], true) := rfl
  unfold bytL
  rw [e, h1, if_pos rfl]
  show quotedL (34 :: (s ++ [92] ++ [34])) = _
  rw [quoted_enc (.inl rfl) (by decide) h]
  rfl
theorem b_odd : bytL ([34] ++ s ++ [34, 34]) = none := by
  have e : [34] ++ s ++ [34, 34] = 34 :: (s ++ [34] ++ [34]) := by simp
  have h1 : lettersL (34 :: (s ++ [34] ++ [34])) = ([], true) := rfl
  unfold bytL
  rw [e, h1, if_pos rfl]
  show quotedL (34 :: (s ++ [34] ++ [34])) = _
  rw [quoted_enc (.inl rfl) (by decide) h]
  rfl
end
/-! ### The walk -/
noncomputable def T2b (a b : Int) : Tm := tlist [.int .u8 b] 1 (tlist [.int .u8 a] 0 (tlist [.int .u8 (.ofNat 0), .int .u8 (.ofNat 0)] 0 .e))
theorem bld2 (a b : Int) (h : H) : withElem env 37 (fun e ei => exBuildSlice 2 [(0, (.int .u8 a)), (1, (.int .u8 b))] h e ei) = some (.slice h.next 0 2 1 true, h.new (.row (T2b a b) 2 0 TB true)) := by kernel_rfl
theorem are2 (x y : UInt8) : CellsAre (T2b (Int.ofNat x.toNat) (Int.ofNat y.toNat)) [x, y] := by
  intro i hi
  unfold T2b
  match i, hi with
  | 0, _ => rw [tget_tlist, if_neg (by simp), tget_tlist]; rfl
  | 1, _ => rw [tget_tlist]; rfl
theorem cv1 (x : UInt8) (h : H) : convA env (h.new (.row (T1 (Int.ofNat x.toNat)) 1 0 TB true)) 37 9 (.slice h.next 0 1 1 true) = some (S [x], h.new (.row (T1 (Int.ofNat x.toNat)) 1 0 TB true)) :=
  conv_row (l := [x]) (at_new_same _ _) (Nat.le_refl 1) (CellsAre.new [x] _)
theorem cv2 (x y : UInt8) (h : H) : convA env (h.new (.row (T2b (Int.ofNat x.toNat) (Int.ofNat y.toNat)) 2 0 TB true)) 37 9 (.slice h.next 0 2 1 true) = some (S [x, y], h.new (.row (T2b (Int.ofNat x.toNat) (Int.ofNat y.toNat)) 2 0 TB true)) :=
  conv_row (l := [x, y]) (at_new_same _ _) (Nat.le_refl 2) (are2 x y)
theorem cv3 (x y z : UInt8) (h : H) : convA env (h.new (.row (T3b (Int.ofNat x.toNat) (Int.ofNat y.toNat) (Int.ofNat z.toNat)) 3 0 TB true)) 37 9 (.slice h.next 0 3 1 true) = some (S [x, y, z], h.new (.row (T3b (Int.ofNat x.toNat) (Int.ofNat y.toNat) (Int.ofNat z.toNat)) 3 0 TB true)) :=
  conv_row (l := [x, y, z]) (at_new_same _ _) (Nat.le_refl 3) (are3 x y z)
theorem c5_f {v : AV} {l s : List UInt8} {h : H} {n : Nat} {how : Int} (hb : Bys h v l) (he : Enc l s) (hl : s.length ≤ 4000) : (r5 W1 kT (n + 1)).a1 v how s.length (enc s) (Int.ofNat l.length) h := by
  refine j5_1 ?_
  unfold s5_1
  rw [hb.len, ilt]
  refine cnd_f (decide_eq_false (Nat.lt_irrefl _)) ?_
  have pl : ∀ o, plain (bytV o) = true := by intro o; cases o <;> rfl
  have es : ∀ m, bytV (some m) = .tuple [S m, .bool true] := fun _ => rfl
  have en : bytV none = .tuple [S [], .bool false] := rfl
  refine catS_i (s := [34]) (by simp; omega) ?_
  refine catS_i (t := [34]) (by simp; omega) ?_
  refine use2 (c13 _ (by simp; omega)) ?_ rfl (pl _)
  rw [b_x he, es, ext_0, asS_s, ext_1, asB_b]
  refine catS_i (s := [117, 56, 34]) (by simp; omega) ?_
  refine catS_i (t := [34]) (by simp; omega) ?_
  refine use2 (c13 _ (by simp; omega)) ?_ rfl (pl _)
  rw [b_y he, es, ext_0, asS_s, ext_1, asB_b]
  refine catS_i (s := [76, 39]) (by simp; omega) ?_
  refine catS_i (t := [39]) (by simp; omega) ?_
  refine use2 (c13 _ (by simp; omega)) ?_ rfl (pl _)
  rw [b_z he, es, ext_0, asS_s, ext_1, asB_b]
  refine catS_i (s := [34]) (by simp; omega) ?_
  refine catS_i (t := [92, 34]) (by simp; omega) ?_
  refine use2 (c13 _ (by simp; omega)) ?_ rfl (pl _)
  rw [b_no he, en, ext_0, asS_s, ext_1, asB_b]
  refine catS_i (s := [34]) (by simp; omega) ?_
  refine catS_i (t := [34, 34]) (by simp; omega) ?_
  refine use2 (c13 _ (by simp; omega)) ?_ rfl (pl _)
  rw [b_odd he, en, ext_0, asS_s, ext_1, asB_b]
  refine and_q (b := true) (fun k' hk' => ?_) ?_
  · rw [hb.str, oK_some, asS_s, strEq_enc, decide_eq_true rfl]; exact hk'
  refine and_b ?_
  refine and_q (b := true) (fun k' hk' => ?_) ?_
  · rw [hb.str, oK_some, asS_s, strEq_enc, decide_eq_true rfl]; exact hk'
  refine and_b ?_
  refine and_q (b := true) (fun k' hk' => ?_) ?_
  · rw [hb.str, oK_some, asS_s, strEq_enc, decide_eq_true rfl]; exact hk'
  refine and_b ?_
  refine and_b ?_
  refine and_q (b := true) (fun k' hk' => ?_) ?_
  · refine use2 c8 ?_
    rw [asB_b]; exact hk'
  rfl
theorem c5_1 {v : AV} {l : List UInt8} {how : Int} (hl : l.length ≤ 100) : ∀ (n i : Nat) (s : List UInt8) (h : H), Bys h v l → 2 * (l.length - i) + 1 ≤ n → i ≤ l.length → s.length ≤ 4 * i → (∀ t, Enc (l.drop i) t → Enc l (s ++ t)) → (r5 W1 kT n).a1 v how s.length (enc s) (Int.ofNat i) h
  | 0, _, _, _, _, hn, _, _, _ => absurd hn (by omega)
  | n + 1, i, s, h, hb, hn, hi, hs, hE => by
    by_cases e : i < l.length
    · refine j5_1 ?_
      unfold s5_1
      have hx := (l[i]).toNat_lt
      have hd : l.drop i = l[i] :: l.drop (i + 1) := List.drop_eq_getElem_cons e
      rw [hb.len, ilt]
      refine cnd_t (decide_eq_true e) ?_
      rw [natI_eq]
      refine hb.get e ?_
      rw [asI_ub]
      obtain ⟨n, rfl⟩ : ∃ n', n = n' + 1 := ⟨n - 1, by omega⟩
      have step : ∀ (p : List UInt8) (h' : H), Bys h' v l → p.length ≤ 4 → (∀ t, Enc (l.drop (i + 1)) t → Enc (l.drop i) (p ++ t)) → (r5 W1 kT (n + 1)).a2 v how (s ++ p).length (enc (s ++ p)) (Int.ofNat i) h' := by
        intro p h' hb' hp hE'
        refine j5_2 ?_
        unfold s5_2
        rw [iadd1 (by omega), fI_eq]
        refine c5_1 hl n (i + 1) (s ++ p) h' hb' (by omega) e (by rw [List.length_append]; omega) fun t ht => ?_
        rw [List.append_assoc]
        exact hE _ (hE' t ht)
      rw [toNat_eq _ 34 (by decide), toNat_eq _ 39 (by decide), toNat_eq _ 92 (by decide), toNat_eq _ 63 (by decide), toNat_eq _ 10 (by decide)]
      refine or_b ?_
      refine or_b ?_
      refine or_b ?_
      refine cnd_i (fun e1 => ?_) (fun e1 => ?_)
      · have hc : l[i] ∈ spec4 := by
          simp only [Bool.or_eq_true, decide_eq_true_eq] at e1
          simp only [spec4, List.mem_cons, List.not_mem_nil, or_false]
          rcases e1 with ((e1 | e1) | e1) | e1
          · exact .inl e1
          · exact .inr (.inl e1)
          · exact .inr (.inr (.inl e1))
          · exact .inr (.inr (.inr e1))
        refine catS_i (t := [92]) (by simp; omega) ?_
        rw [bld1, oK_some, cv1, oK_some, asS_s]
        refine catS_i (by simp; omega) ?_
        rw [List.append_assoc]
        exact step [92, l[i]] _ hb.new (by simp) fun t ht => by rw [hd]; exact .spec hc ht
      · have hc : l[i] ∉ spec4 := by
          simp only [Bool.or_eq_false_iff, decide_eq_false_iff_not] at e1
          simp only [spec4, List.mem_cons, List.not_mem_nil, or_false]
          rintro (h | h | h | h)
          · exact e1.1.1.1 h
          · exact e1.1.1.2 h
          · exact e1.1.2 h
          · exact e1.2 h
        refine cnd_i (fun e2 => ?_) (fun e2 => ?_)
        · have e2 : l[i] = 10 := of_decide_eq_true e2
          refine catS_i (t := [92, 110]) (by simp; omega) ?_
          exact step [92, 110] _ hb (by simp) fun t ht => by rw [hd, e2]; exact .nl ht
        · rw [fI_eq]
          obtain ⟨r, hr, cr⟩ := c18 (wrap .i64 (iadd how (Int.ofNat i))) (m := 3) (by decide) (by decide)
          refine use2 cr ?_
          rw [asI_k, ieqN]
          refine cnd_i (fun _ => ?_) (fun _ => ?_)
          · refine catS_i (t := [92]) (by simp; omega) ?_
            rw [quo8 hx (by decide), add48 (by omega), fI_eq, quo8 hx (by decide), remN (by decide), add48 (by omega), fI_eq, remN (by decide), add48 (by omega), fI_eq, bld3, oK_some, cv3, oK_some, asS_s]
            refine catS_i (by simp; omega) ?_
            rw [List.append_assoc]
            exact step (ow l[i]) _ hb.new (by simp [ow]) fun t ht => by rw [hd]; exact .oct ht
          · rw [fI_eq]
            refine use2 cr ?_
            rw [asI_k, ieqN]
            refine and_q (b := decide (i + 1 = l.length)) (fun k' hk' => ?_) ?_
            · rw [iadd1 (by omega), fI_eq, hb.len, ieqN]; exact hk'
            refine cnd_i (fun e3 => ?_) (fun _ => ?_)
            · rw [Bool.and_eq_true] at e3
              have e3 : i + 1 = l.length := of_decide_eq_true e3.2
              refine catS_i (t := [92, 120]) (by simp; omega) ?_
              rw [quo8 hx (by decide), natI_eq]
              refine idxS_i (s := hexU) (by show _ < 16; omega) ?_
              rw [remN (by decide), natI_eq]
              refine idxS_i (s := lowX) (by show _ < 16; omega) ?_
              rw [bld2, oK_some, cv2, oK_some, asS_s]
              refine catS_i (by simp; omega) ?_
              rw [List.append_assoc]
              refine step [92, 120, _, _] _ hb.new (by simp) fun t ht => ?_
              have hd2 : l.drop (i + 1) = [] := by rw [List.drop_eq_nil_iff]; omega
              rw [hd2] at ht
              cases ht
              rw [hd, hd2]
              have g1 : hexU[(l[i]).toNat / 16]'(by show _ < 16; omega) = hx1' l[i] := by unfold hx1'; rw [List.getD_eq_getElem?_getD, List.getElem?_eq_getElem (by show _ < 16; omega)]; rfl
              have g2 : lowX[(l[i]).toNat % 16]'(by show _ < 16; omega) = hx2' l[i] := by unfold hx2'; rw [List.getD_eq_getElem?_getD, List.getElem?_eq_getElem (by show _ < 16; omega)]; rfl
              rw [g1, g2]
              exact .hex
            · rw [bld1, oK_some, cv1, oK_some, asS_s]
              refine catS_i (by simp; omega) ?_
              exact step [l[i]] _ hb.new (by simp) fun t ht => by rw [hd]; exact .raw hc ht
    · have e : i = l.length := by omega
      subst e
      have he := hE [] (by rw [List.drop_length]; exact .nil)
      rw [List.append_nil] at he
      exact c5_f hb he (by omega)
theorem c5 {v : AV} {l : List UInt8} {how : Int} {h : H} (hb : Bys h v l) : W1 (.func 5) [v, .int .i64 how] h kT := by
  refine w5 (n := 300) sw_ok (g5 ?_)
  unfold s5_0
  rw [hb.len, ilt]
  refine cnd_i (fun _ => ?_) (fun e => ?_)
  · refine use2 c8 ?_
    rw [asB_b]
  · have e : ¬ 100 < l.length := of_decide_eq_false e
    exact c5_1 (by omega) 299 0 [] h hb (by omega) (Nat.zero_le _) (Nat.zero_le _) fun t ht => ht
end Go.Den
