/-
  A part of the proof: the words of HeaderSpaces, put together.
-/
import Derived.Test.YtdpnnajfmkpfjaaGreatDoorLexc
namespace Go.Den
open Go.RowKit
set_option maxRecDepth 100000
def gp : Nat → List UInt8
  | 0 => [32]
  | 1 => [32, 32]
  | 2 => [47, 42, 42, 47]
  | _ => [46]
def wp : Nat → List UInt8
  | 3 => [46]
  | _ => [32]
/-- a word, as the law has it -/
def wok (w : List UInt8) : Prop := w ≠ [] ∧ w.length ≤ 10 ∧ ∀ x ∈ w, lowC x = true
theorem jn_len {g : List UInt8} (hg : g.length ≤ 4) : ∀ ws : List (List UInt8), (∀ w ∈ ws, wok w) → (jn g ws).length ≤ 14 * ws.length := by
  have key : ∀ ws : List (List UInt8), (∀ w ∈ ws, wok w) → (ws.flatMap (fun x => g ++ x)).length ≤ 14 * ws.length := by
    intro ws
    induction ws with
    | nil => intro _; exact Nat.le_refl _
    | cons w ws ih =>
      intro h
      have h1 := (h w List.mem_cons_self).2.1
      have h2 := ih fun x hx => h x (List.mem_cons_of_mem _ hx)
      rw [List.flatMap_cons, List.length_append, List.length_append, List.length_cons]
      omega
  intro ws h
  cases ws with
  | nil => exact Nat.le_refl _
  | cons w ws =>
    have h1 := (h w List.mem_cons_self).2.1
    have h2 := key ws fun x hx => h x (List.mem_cons_of_mem _ hx)
    show (w ++ _).length ≤ _
    rw [List.length_append, List.length_cons]; omega
theorem jn_mem {g : List UInt8} {ws : List (List UInt8)} {x : UInt8} (h : x ∈ jn g ws) : x ∈ g ∨ ∃ w ∈ ws, x ∈ w := by
  cases ws with
  | nil => cases h
  | cons w ws =>
    have h : x ∈ w ++ ws.flatMap (fun x => g ++ x) := h
    rw [List.mem_append, List.mem_flatMap] at h
    rcases h with h | ⟨y, hy, h⟩
    · exact .inr ⟨w, List.mem_cons_self, h⟩
    · rw [List.mem_append] at h
      rcases h with h | h
      · exact .inl h
      · exact .inr ⟨y, List.mem_cons_of_mem _ hy, h⟩
theorem jn_fst {g : List UInt8} {ws : List (List UInt8)} (h0 : ws ≠ []) (h : ∀ w ∈ ws, wok w) : ∃ c s', jn g ws = c :: s' ∧ lowC c = true := by
  cases ws with
  | nil => exact absurd rfl h0
  | cons w ws =>
    obtain ⟨h1, _, h2⟩ := h w List.mem_cons_self
    cases w with
    | nil => exact absurd rfl h1
    | cons c w => exact ⟨c, _, rfl, h2 c List.mem_cons_self⟩
theorem gp_len (r : Nat) : (gp r).length ≤ 4 := by
  match r with
  | 0 | 1 | 2 => decide
  | _ + 3 => show ([46] : List UInt8).length ≤ 4; decide
theorem wp_len (r : Nat) : (wp r).length ≤ 4 := by
  unfold wp
  split <;> decide
theorem low_ok {x : UInt8} (h : lowC x = true) : x ≠ 63 ∧ x ≠ 92 ∧ x ≠ 10 ∧ x ≠ 34 := by
  refine ⟨?_, ?_, ?_, ?_⟩ <;> (rintro rfl; revert h; decide)
theorem hs_of {r : Nat} {ws : List (List UInt8)} (h0 : ws ≠ []) (h8 : ws.length ≤ 8) (h : ∀ w ∈ ws, wok w) (hr : r < 4) : HS (jn (gp r) ws) (jn (wp r) ws) := by
  have l1 := jn_len (gp_len r) ws h
  have l2 := jn_len (wp_len r) ws h
  have hw : ∀ w ∈ ws, w ≠ [] ∧ ∀ x ∈ w, (lowC x || x == 46) = true := fun w hw => ⟨(h w hw).1, fun x hx => by rw [(h w hw).2.2 x hx]; rfl⟩
  refine ⟨?_, jn_fst h0 h, fun x hx => ?_, by omega, by omega, fun {A R c Q b T} s1 s2 hl hk => ?_⟩
  · obtain ⟨c, s', e, _⟩ := jn_fst (g := wp r) h0 h
    rw [e]; simp
  · rcases jn_mem hx with h1 | ⟨w, h1, h2⟩
    · have : ∀ r, ∀ x ∈ gp r, x ≠ 63 ∧ x ≠ 92 ∧ x ≠ 10 ∧ x ≠ 34 := fun r => by
        match r with
        | 0 | 1 | 2 => decide
        | _ + 3 => show ∀ x ∈ ([46] : List UInt8), x ≠ 63 ∧ x ≠ 92 ∧ x ≠ 10 ∧ x ≠ 34; decide
      exact this r x h1
    · exact low_ok ((h w h1).2.2 x h2)
  · match r, hr with
    | 0, _ => exact Lx.words gap1 s1 s2 ws A h0 hw hl hk
    | 1, _ => exact Lx.words gap2 s1 s2 ws A h0 hw hl hk
    | 2, _ => exact Lx.words gap3 s1 s2 ws A h0 hw hl hk
    | 3, _ =>
      refine Lx.word hl (wd_low ?_ (fun x hx => ?_) s1 s2) hk
      · obtain ⟨c, s', e, _⟩ := jn_fst (g := gp 3) h0 h
        rw [e]; simp
      · rcases jn_mem hx with h1 | ⟨w, h1, h2⟩
        · have h1 : x ∈ ([46] : List UInt8) := h1
          rw [List.mem_singleton.1 h1]; decide
        · exact (hw w h1).2 x h2
/-! ### The walk -/
/-- an argument that holds those words -/
def Wrds (h : H) (v : AV) (l : List (List UInt8)) : Prop := (v = .nils ∧ l = []) ∨ ∃ b c m, v = .slice b 0 l.length 1 false ∧ b.nat < h.next.nat ∧ h.at b = .ext c m ∧ l.length ≤ m ∧ ∀ i (hi : i < l.length), c i = S l[i]
theorem Wrds.len {h : H} {v : AV} {l : List (List UInt8)} (hb : Wrds h v l) {K : Nat → Prop} : lenV v K = K l.length := by
  rcases hb with ⟨rfl, rfl⟩ | ⟨b, c, m, rfl, _⟩ <;> rfl
theorem Wrds.ext {h h' : H} {v : AV} {l : List (List UInt8)} (hb : Wrds h v l) (x : Exh h h') : Wrds h' v l := by
  rcases hb with ⟨rfl, rfl⟩ | ⟨b, c, m, rfl, h1, h2, h3⟩
  · exact .inl ⟨rfl, rfl⟩
  · exact .inr ⟨b, c, m, rfl, Nat.lt_of_lt_of_le h1 x.1, by rw [x.2 b h1]; exact h2, h3⟩
theorem Wrds.get {h : H} {v : AV} {l : List (List UInt8)} (hb : Wrds h v l) {i : Nat} (hi : i < l.length) {K : AV → Prop} (hk : K (S l[i])) : elemA 1 i v fun v' => ld1 v' h K := by
  rcases hb with ⟨rfl, rfl⟩ | ⟨b, c, m, rfl, _, ha, hm, hc⟩
  · exact absurd hi (Nat.not_lt_zero _)
  · refine elemA_i hi ?_
    show h.read1K b (0 + i * 1) bad0 K
    unfold Hp.read1K
    rw [ha, show 0 + i * 1 = i by omega]
    show rd1Ext i bad0 K c m
    unfold rd1Ext
    rw [show Nat.ble (Nat.add i 1) m = true from Nat.ble_eq_true_of_le (by show i + 1 ≤ m; omega)]
    show forceV (c i) K
    rw [forceV_eq, hc i hi]; exact hk
noncomputable def T4 (a b c d : AV) : Tm := tlist [d] 3 (tlist [c] 2 (tlist [b] 1 (tlist [a] 0 (tlist [.str 0 0, .str 0 0, .str 0 0, .str 0 0] 0 .e))))
theorem b4 (a b c d e f g i : Nat) (h : H) : withElem env 33 (fun t ei => exBuildSlice 4 [(0, .str a b), (1, .str c d), (2, .str e f), (3, .str g i)] h t ei) = some (.slice h.next 0 4 1 true, h.new (.row (T4 (.str a b) (.str c d) (.str e f) (.str g i)) 4 0 9 true)) := by kernel_rfl
theorem T4_get {a b c d : AV} {r : Nat} (hr : r < 4) : tget (T4 a b c d) r = [a, b, c, d].getD r .undef := by
  match r, hr with
  | 0, _ => rfl
  | 1, _ => rfl
  | 2, _ => rfl
  | 3, _ => rfl
theorem pick4 {h : H} {q : P} {a b c d : AV} {r : Nat} (hr : r < 4) (hq : h.at q = .row (T4 a b c d) 4 0 9 true) {K : AV → Prop} (hk : K ([a, b, c, d].getD r .undef)) : elemA 1 r (.slice q 0 4 1 true) fun v => ld1 v h K := by
  refine elemA_i hr ?_
  rw [show 0 + r * 1 = r by omega]
  refine ld1_i hq hr ?_
  rw [T4_get hr]; exact hk
theorem pickG {r : Nat} (hr : r < 4) : [AV.str 1 32, .str 2 8224, .str 4 791292463, .str 1 46].getD r .undef = S (gp r) := by
  match r, hr with
  | 0, _ => rfl
  | 1, _ => rfl
  | 2, _ => rfl
  | 3, _ => rfl
theorem pickW {r : Nat} (hr : r < 4) : [AV.str 1 32, .str 1 32, .str 1 32, .str 1 46].getD r .undef = S (wp r) := by
  match r, hr with
  | 0, _ => rfl
  | 1, _ => rfl
  | 2, _ => rfl
  | 3, _ => rfl
def cost : List (List UInt8) → Nat
  | [] => 1
  | w :: l => w.length + 3 + cost l
theorem cost_pos (l : List (List UInt8)) : 0 < cost l := by
  cases l with
  | nil => exact Nat.one_pos
  | cons w l => show 0 < w.length + 3 + cost l; omega
theorem lowD (x : UInt8) : (iblt (Int.ofNat x.toNat) (Int.ofNat 97) || iblt (Int.ofNat 122) (Int.ofNat x.toNat)) = bnot (lowC x) := by
  rw [ilt, ilt]
  unfold lowC
  by_cases h1 : 97 ≤ x.toNat
  · by_cases h2 : x.toNat ≤ 122
    · rw [decide_eq_true h1, decide_eq_true h2, decide_eq_false (by omega), decide_eq_false (by omega)]; rfl
    · rw [decide_eq_true h1, decide_eq_false h2, decide_eq_false (by omega), decide_eq_true (by omega)]; rfl
  · rw [decide_eq_false h1, decide_eq_true (by omega)]; rfl
theorem c4_1 {hE : H} {v0 : AV} {n1 : Int} {ws : List (List UInt8)} {r : Nat} (hv : Wrds hE v0 ws) (h0 : ws ≠ []) (h8 : ws.length ≤ 8) (hlen : ∀ w ∈ ws, w.length ≤ 9223372036854775807) (hr : r < 4) (hR : Pure PP G Go.Den.h0 10 [.int .i64 n1, .int .i64 (Int.ofNat 4)] (.int .i64 (Int.ofNat r))) : ∀ (n : Nat),
    (∀ i {h : H}, i ≤ ws.length → cost (ws.drop i) < n → Exh hE h → (∀ w ∈ ws.take i, wok w) → (r4 W1 (fun v _ => v = .bool true) n).a1 v0 n1 (jn (gp r) (ws.take i)).length (enc (jn (gp r) (ws.take i))) (jn (wp r) (ws.take i)).length (enc (jn (wp r) (ws.take i))) (Int.ofNat i) h) ∧
    (∀ i (hi : i < ws.length) j {h : H}, j ≤ ws[i].length → ws[i].length - j + 2 + cost (ws.drop (i + 1)) < n → Exh hE h → (∀ w ∈ ws.take i, wok w) → (∀ x (hx : x < ws[i].length), x < j → lowC ws[i][x] = true) → (r4 W1 (fun v _ => v = .bool true) n).a2 v0 n1 (jn (gp r) (ws.take i)).length (enc (jn (gp r) (ws.take i))) (jn (wp r) (ws.take i)).length (enc (jn (wp r) (ws.take i))) (Int.ofNat i) (Int.ofNat j) h)
  | 0 => ⟨fun _ _ _ h => absurd h (Nat.not_lt_zero _), fun _ _ _ _ _ h => absurd h (Nat.not_lt_zero _)⟩
  | n + 1 => by
    have ih := c4_1 hv h0 h8 hlen hr hR n
    refine ⟨fun i h hi hn hx hw => ?_, fun i hi j h hj hn hx hw hlow => ?_⟩
    · have hv' := hv.ext hx
      by_cases e : i < ws.length
      · refine j4_1 ?_
        unfold s4_1
        rw [hv'.len, ilt, decide_eq_true e]
        refine cnd_t rfl ?_
        rw [List.drop_eq_getElem_cons e] at hn
        have hn : ws[i].length + 3 + cost (ws.drop (i + 1)) < n + 1 := hn
        exact ih.2 i e 0 (Nat.zero_le _) (by omega) hx hw fun x _ h => absurd h (Nat.not_lt_zero _)
      · have e : i = ws.length := by omega
        subst e
        rw [List.take_length] at hw ⊢
        exact c4_end (hs_of h0 h8 hw hr) (fun {K} => hv'.len)
    · have hv' := hv.ext hx
      have hwl := hlen _ (List.getElem_mem hi)
      have hcp := cost_pos (ws.drop (i + 1))
      refine j4_2 ?_
      unfold s4_2
      rw [natI_eq]
      refine hv'.get hi ?_
      rw [asS_s, ilt]
      refine cnd_i (fun e => ?_) (fun e => ?_)
      · have e : j < ws[i].length := of_decide_eq_true e
        rw [natI_eq]
        refine hv'.get hi ?_
        rw [asS_s, natI_eq]
        refine idxS_i e ?_
        refine or_q (b := iblt (Int.ofNat 122) (Int.ofNat (ws[i][j]).toNat)) (fun k' hk' => ?_) ?_
        · refine hv'.get hi ?_
          rw [asS_s, natI_eq]
          exact idxS_i e hk'
        rw [lowD]
        refine cnd_i (fun _ => ?_) (fun e2 => ?_)
        · refine use2 c5 ?_
          rfl
        · have e2 : lowC ws[i][j] = true := by
            cases hh : lowC ws[i][j] with
            | true => rfl
            | false => rw [hh] at e2; cases e2
          rw [iaddN, wrapN (by omega), fI_eq]
          refine ih.2 i hi (j + 1) e (by omega) hx hw fun x h1 h2 => ?_
          by_cases e3 : x = j
          · subst e3; exact e2
          · exact hlow x h1 (by omega)
      · have e : j = ws[i].length := by have := of_decide_eq_false e; omega
        subst e
        rw [natI_eq]
        refine hv'.get hi ?_
        rw [asS_s]
        refine or_q (b := iblt (Int.ofNat 10) (Int.ofNat ws[i].length)) (fun k' hk' => ?_) ?_
        · refine hv'.get hi ?_
          rw [asS_s]; exact hk'
        rw [show strEq ws[i].length (enc ws[i]) 0 0 = decide (ws[i] = []) from strEq_enc (t := []), ilt]
        refine cnd_i (fun _ => ?_) (fun e2 => ?_)
        · refine use2 c5 ?_
          rfl
        · have e2 : ws[i] ≠ [] ∧ ws[i].length ≤ 10 := by
            rw [Bool.or_eq_false_iff] at e2
            exact ⟨of_decide_eq_false e2.1, by have := of_decide_eq_false e2.2; omega⟩
          have hwi : wok ws[i] := ⟨e2.1, e2.2, fun x hx => by
            obtain ⟨m, hm, rfl⟩ := List.getElem_of_mem hx
            exact hlow m hm hm⟩
          have hw2 : ∀ w ∈ ws.take (i + 1), wok w := fun w h => by
            rw [List.take_succ_eq_append_getElem hi, List.mem_append, List.mem_singleton] at h
            rcases h with h | rfl
            · exact hw w h
            · exact hwi
          have hti : (ws.take i).length = i := by rw [List.length_take]; omega
          have l1 := jn_len (gp_len r) _ hw
          have l2 := jn_len (wp_len r) _ hw
          rw [hti] at l1 l2
          have l3 := gp_len r
          have l4 := wp_len r
          obtain ⟨n, rfl⟩ : ∃ m, n = m + 1 := ⟨n - 1, by omega⟩
          -- a turn's end
          have fin : ∀ (a b : List UInt8) {h' : H}, Exh hE h' → a ++ ws[i] = jn (gp r) (ws.take (i + 1)) → b ++ ws[i] = jn (wp r) (ws.take (i + 1)) → a.length ≤ 200 → b.length ≤ 200 → (r4 W1 (fun v _ => v = .bool true) (n + 1)).a3 v0 n1 a.length (enc a) b.length (enc b) (Int.ofNat i) h' := by
            intro a b h' hx' ea eb la lb
            have hv2 := hv.ext hx'
            refine j4_3 ?_
            unfold s4_3
            rw [natI_eq]
            refine hv2.get hi ?_
            rw [asS_s]
            refine catS_i (by omega) ?_
            refine hv2.get hi ?_
            rw [asS_s]
            refine catS_i (by omega) ?_
            rw [iaddN, wrapN (by omega), fI_eq, ea, eb]
            exact (c4_1 hv h0 h8 hlen hr hR n).1 (i + 1) hi (by omega) hx' hw2
          rw [ilt]
          refine cnd_i (fun e3 => ?_) (fun e3 => ?_)
          · have e3 : 0 < i := of_decide_eq_true e3
            have hne : ws.take i ≠ [] := fun h => by rw [h] at hti; simp at hti; omega
            rw [b4, oK_some]
            refine use2 hR ?_
            rw [asI_k, natI_eq]
            refine pick4 hr (at_new_same _ _) ?_
            rw [pickG hr, asS_s]
            refine catS_i (by omega) ?_
            rw [b4, oK_some]
            refine use2 hR ?_
            rw [asI_k, natI_eq]
            refine pick4 hr (at_new_same _ _) ?_
            rw [pickW hr, asS_s]
            refine catS_i (by omega) ?_
            refine fin _ _ (hx.trans (Exh.new.trans Exh.new)) ?_ ?_ (by rw [List.length_append]; omega) (by rw [List.length_append]; omega)
            · rw [List.take_succ_eq_append_getElem hi, jn_snoc _ _ _ hne]
            · rw [List.take_succ_eq_append_getElem hi, jn_snoc _ _ _ hne]
          · have e3 : i = 0 := by have := of_decide_eq_false e3; omega
            have hone : ∀ g, jn g (ws.take i) ++ ws[i] = jn g (ws.take (i + 1)) := fun g => by
              rw [List.take_succ_eq_append_getElem hi]
              have : ws.take i = [] := by rw [e3]; rfl
              rw [this]
              show [] ++ ws[i] = ws[i] ++ []
              simp
            exact fin _ _ hx (hone _) (hone _) (by omega) (by omega)
theorem c4 {h : H} {v0 : AV} {n1 : Int} {ws : List (List UInt8)} (hv : Wrds h v0 ws) (hlen : ∀ w ∈ ws, w.length ≤ 9223372036854775807) : W1 (.func 4) [v0, .int .i64 n1] h (fun v _ => v = .bool true) := by
  obtain ⟨r, hr, hR⟩ := c10 n1 (m := 4) (by decide) (by decide)
  refine w4 (n := cost ws + 3) sw_ok (g4 ?_)
  unfold s4_0
  rw [hv.len]
  refine or_q (b := iblt (Int.ofNat 8) (Int.ofNat ws.length)) (fun k' hk' => ?_) ?_
  · rw [hv.len]; exact hk'
  rw [ieqN, ilt]
  refine cnd_i (fun _ => ?_) (fun e => ?_)
  · refine use2 c5 ?_
    rfl
  · rw [Bool.or_eq_false_iff] at e
    have e1 : ws ≠ [] := fun h => (of_decide_eq_false e.1) (by rw [h]; rfl)
    have e2 : ws.length ≤ 8 := by have := of_decide_eq_false e.2; omega
    exact (c4_1 hv e1 e2 hlen hr hR _).1 0 (Nat.zero_le _) (by rw [List.drop_zero]; omega) Exh.refl (fun _ h => nomatch h)
end Go.Den
