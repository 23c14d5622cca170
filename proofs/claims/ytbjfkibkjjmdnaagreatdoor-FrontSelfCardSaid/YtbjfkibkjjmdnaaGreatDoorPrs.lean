/-
  A part of the proof: a text's lines, told ahead.
-/
import Derived.Test.YtbjfkibkjjmdnaaGreatDoorPrd
namespace Go.Den
open Go.RowKit
set_option maxRecDepth 100000
theorem Sim.addB {T : Type} {μ : Mu} {h : Hp T} {w : World} (s : Sim μ h w) {o : Ob T} {l : Loc} (hne : ∀ c q, h.at c ≠ .dead → μ c = some q → q.blk ≠ l.blk) (ho : ∀ μ', Mu.le μ μ' → ObR μ' w l o) : Sim (μ.set h.next l) (h.new o) w := by
  have hn : μ h.next = Option.none := s.none (Nat.le_refl _)
  have hle := Mu.le_set (l := l) hn
  have hsucc : (h.new o).next.nat = h.next.nat + 1 := P.nat_succ _
  refine ⟨?_, ?_, ?_, ?_⟩
  · intro c q hc
    rw [hsucc]
    by_cases e : c = h.next
    · subst e; omega
    · rw [Mu.set_other _ _ e] at hc; have := s.fresh c q hc; omega
  · intro c hc
    rw [hsucc] at hc
    rw [at_new, if_neg (fun e => by subst e; omega)]
    exact s.dead c (by omega)
  · intro c q hc hq
    rw [at_new] at hc ⊢
    by_cases e : c = h.next
    · subst e; rw [if_pos rfl]; rw [Mu.set_same] at hq; cases hq; exact ho _ hle
    · rw [if_neg e] at hc ⊢
      rw [Mu.set_other _ _ e] at hq
      exact (s.ob c q hc hq).mono hle
  · intro c c' q q' hc hc' hq hq' he
    rw [at_new] at hc hc'
    by_cases e : c = h.next
    · by_cases e' : c' = h.next
      · rw [e, e']
      · rw [if_neg e'] at hc'
        rw [e, Mu.set_same] at hq; cases hq
        rw [Mu.set_other _ _ e'] at hq'
        exact absurd he.symm (hne c' q' hc' hq')
    · rw [if_neg e] at hc
      rw [Mu.set_other _ _ e] at hq
      have hc0 : h.at c ≠ .dead := fun e0 => by rw [e0] at hc; cases hc
      by_cases e' : c' = h.next
      · rw [e', Mu.set_same] at hq'; cases hq'
        exact absurd he (hne c q hc0 hq)
      · rw [if_neg e'] at hc'
        rw [Mu.set_other _ _ e'] at hq'
        exact s.inj c c' q q' hc hc' hq hq' he
theorem Ext'.addB {T : Type} {μ0 μ : Mu} {h0 h : Hp T} {w0 w : World} (x : Ext' μ0 h0 w0 μ h w) (s : Sim μ h w) {o : Ob T} {l : Loc} (hl : w0.heap.size ≤ l.blk) : Ext' μ0 h0 w0 (μ.set h.next l) (h.new o) w := by
  have hn : μ h.next = Option.none := s.none (Nat.le_refl _)
  have hsucc : (h.new o).next.nat = h.next.nat + 1 := P.nat_succ _
  refine ⟨x.le.trans (Mu.le_set hn), x.size, x.keep, ?_, ⟨by have := x.ghost.1; omega, fun c hc e => ?_⟩, x.os, x.tape, x.output⟩
  · rintro k hk ⟨c, q, hc, hq, rfl⟩
    rw [at_new] at hc
    by_cases e : c = h.next
    · rw [e, Mu.set_same] at hq; cases hq; omega
    · rw [if_neg e] at hc
      rw [Mu.set_other _ _ e] at hq
      exact x.own _ hk ⟨c, q, hc, hq, rfl⟩
  · have hlt := x.ghost.1
    have ec : c ≠ h.next := fun e' => by subst e'; omega
    obtain ⟨e1, e2⟩ := x.ghost.2 c hc e
    exact ⟨by rw [Mu.set_other _ _ ec]; exact e1, by rw [at_new, if_neg ec]; exact e2⟩
/-! ### What the check says -/
theorem cellsB_i {t : Tm} : ∀ {l : List AV} {j : Nat}, cellsB t l j = true → ∀ i (hi : i < l.length), tget t (j + i) = l[i]
  | [], _, _, i, hi => absurd hi (Nat.not_lt_zero _)
  | x :: l, j, h, i, hi => by
    obtain ⟨h1, h2⟩ := band_inv (show band (avEq 4 (tget t j) x) (cellsB t l (Nat.add j 1)) = true from h)
    cases i with
    | zero => exact avEq_eq 4 _ _ h1
    | succ i =>
      have := cellsB_i h2 i (by simpa using hi)
      rw [show Nat.add j 1 + i = j + (i + 1) by show j + 1 + i = _; omega] at this
      exact this
theorem rowB_i {h : H} {q : P} {l : List AV} {e : TypeId} (hb : rowB h q l e = true) : ∃ t M w, h.at q = .row t M 0 e w ∧ l.length ≤ M ∧ ∀ i (hi : i < l.length), tget t i = l[i] := by
  unfold rowB at hb
  split at hb
  · rename_i t M z e' w ha
    obtain ⟨h1, h2⟩ := band_inv hb
    obtain ⟨h1, h3⟩ := band_inv h1
    obtain ⟨h2, h4⟩ := band_inv h2
    obtain rfl := Nat.eq_of_beq_eq_true h1
    obtain rfl := Nat.eq_of_beq_eq_true h3
    have h2 := Nat.le_of_ble_eq_true h2
    rw [len_eq] at h2
    exact ⟨t, M, w, ha, h2, fun i hi => by have := cellsB_i h4 i hi; rwa [Nat.zero_add] at this⟩
  · cases hb
theorem awayB_i {q : P} : ∀ {l : List P}, awayB q l = true → ∀ x ∈ l, x ≠ q
  | [], _, x, hx => (List.not_mem_nil hx).elim
  | y :: l, h, x, hx => by
    have h : (Bool.rec (awayB q l) false (Nat.beq y.nat q.nat) : Bool) = true := h
    cases e : Nat.beq y.nat q.nat with
    | true => rw [e] at h; cases h
    | false =>
      rw [e] at h
      rcases List.mem_cons.1 hx with rfl | hx
      · intro e'; rw [e', Nat.beq_refl] at e; cases e
      · exact awayB_i h x hx
def LnOk (t : Tm) (h : H) : List LnD → Nat → List P → Prop
  | [], _, _ => True
  | x :: D, j, seen => ∃ q tq Mq wq, tget t j = .slice q 0 (Nat.div (len x.1) 8) 8 false ∧ tget t (j + 1) = .int .i64 (.ofNat x.2.1) ∧ tget t (j + 2) = .int .i64 (.ofNat x.2.2) ∧ tget t (j + 3) = .bool false ∧
    h.at q = .row tq Mq 0 45 wq ∧ x.1.length ≤ Mq ∧ (∀ i (hi : i < x.1.length), tget tq i = x.1[i]) ∧ (∀ y ∈ seen, y ≠ q) ∧ LnOk t h D (j + 4) (q :: seen)
theorem lnB_i {t : Tm} {h : H} : ∀ {D : List LnD} {j : Nat} {seen : List P}, lnB t h D j seen = true → LnOk t h D j seen
  | [], _, _, _ => trivial
  | x :: D, j, seen, hb => by
    have hb : slB (tget t j) (fun q o n sz tg => band (band (band (Nat.beq o 0) (Nat.beq n (Nat.div (len x.1) 8))) (band (Nat.beq sz 8) (bnot tg)))
      (band (cellsB t [.int .i64 (.ofNat x.2.1), .int .i64 (.ofNat x.2.2), .bool false] (Nat.add j 1)) (band (rowB h q x.1 45) (band (awayB q seen) (lnB t h D (Nat.add j 4) (q :: seen)))))) = true := hb
    unfold slB at hb
    split at hb
    · rename_i q o n sz tg ht
      obtain ⟨h1, h2⟩ := band_inv hb
      obtain ⟨a1, a2⟩ := band_inv h1
      obtain ⟨a3, a4⟩ := band_inv a1
      obtain ⟨a5, a6⟩ := band_inv a2
      obtain rfl := Nat.eq_of_beq_eq_true a3
      obtain rfl := Nat.eq_of_beq_eq_true a4
      obtain rfl := Nat.eq_of_beq_eq_true a5
      have a6 : tg = false := by cases tg with | true => cases a6 | false => rfl
      subst a6
      obtain ⟨b1, b2⟩ := band_inv h2
      obtain ⟨b2, b3⟩ := band_inv b2
      obtain ⟨b3, b4⟩ := band_inv b3
      have c := cellsB_i b1
      obtain ⟨tq, Mq, wq, r1, r2, r3⟩ := rowB_i b2
      exact ⟨q, tq, Mq, wq, ht, c 0 (by simp), c 1 (by simp), c 2 (by simp), r1, r2, r3, awayB_i b3, lnB_i b4⟩
    · cases hb
theorem plainL_i {l : List AV} (h : plainL l = true) : ∀ x ∈ l, plain x = true := by
  induction l with
  | nil => intro x hx; exact (List.not_mem_nil hx).elim
  | cons y l ih =>
    obtain ⟨h1, h2⟩ := band_inv (show band (plain y) (plainL l) = true from h)
    intro x hx
    rcases List.mem_cons.1 hx with rfl | hx
    · exact h1
    · exact ih h2 x hx
/-! ### The lines are laid, one by one -/
section
variable {μ0 μ' : Mu} {h0 h' : H} {w0 w' : World}
/-- how far the lines are laid -/
structure Laid (μ0 : Mu) (h0 : H) (w0 w' : World) (μ' : Mu) (h' : H) (t : Tm) (seen : List P) (μ : Mu) (h : H) (acc : List AV) : Prop where
  sim : Sim μ h w'
  ext : Ext' μ0 h0 w0 μ h w'
  used : ∀ c q, h.at c ≠ .dead → μ c = some q → q.blk < w0.heap.size ∨ ∃ y ly, y ∈ seen ∧ (h'.at y).own = true ∧ μ' y = some ly ∧ ly.blk = q.blk
  vals : ∀ j (hj : j < acc.length) v, VR μ' (tget t j) v → VR μ acc[j] v
  ones : ∀ x ∈ acc, x.one = true
theorem row_of (s' : Sim μ' h' w') {q : P} {lq : Loc} {tq : Tm} {Mq : Nat} {e : TypeId} {wq : Bool} (ha : h'.at q = .row tq Mq 0 e wq) (hl : μ' q = some lq) {L : List AV} (hL : L.length ≤ Mq) {μ : Mu} (hv : ∀ i (hi : i < L.length) v, VR μ' (tget tq i) v → VR μ L[i] v) (ho : ∀ x ∈ L, x.one = true) :
    ∀ μ2, Mu.le μ μ2 → ObR μ2 w' lq (.row (tlist L 0 .e) L.length 0 e false : Ob FT) := fun μ2 hle => by
  have r := s'.ob q lq (by rw [ha]; exact fun e => nomatch e) hl
  rw [ha] at r
  obtain ⟨cs, fz, k1, k2, _, k4⟩ := r
  refine ⟨cs, fz, k1, ⟨k2.1, Nat.le_trans (Nat.add_le_add_left hL _) k2.2.1, fun i hi => ?_⟩, (fun e => nomatch e), fun _ => k4 (Nat.zero_le _)⟩
  obtain ⟨u, hu, hr, _⟩ := k2.2.2 i (Nat.lt_of_lt_of_le hi hL)
  have et : tget (tlist L 0 .e) i = L[i] := by
    rw [tget_tlist, if_pos (by omega), List.getD_eq_getElem?_getD, List.getElem?_eq_getElem (by omega)]
    rfl
  rw [et]
  exact ⟨u, hu, VR.mono hle _ _ (hv i hi u hr), ho _ (List.getElem_mem hi)⟩
theorem tellR_ok (s' : Sim μ' h' w') (hW : ∀ q lq, (h'.at q).own = true → μ' q = some lq → w0.heap.size ≤ lq.blk) {t : Tm} {pl ps : P} {M : Nat} {wl : Bool} (hl : h'.at pl = .row t M 0 165 wl) {tS : Tm} {MS : Nat} {wS : Bool} {st : List AV} (hs : h'.at ps = .row tS MS 0 3 wS) (hMS : st.length ≤ MS)
    (hst : ∀ i (hi : i < st.length), tget tS i = st[i]) (pst : ∀ x ∈ st, plain x = true) (ost : ∀ x ∈ st, x.one = true) (hne : ps ≠ pl) {n : Nat} {k : KV} {v : Value} (hv : VR μ' (.agg [.slice pl 0 n 4 false, .nils, .slice ps 0 st.length 1 false]) v) :
    ∀ (D : List LnD) (acc : List AV) (seen : List P) (μ : Mu) (h : H), pl ∉ seen → ps ∉ seen → acc.length + 4 * D.length ≤ M → (∀ x ∈ D, ∀ y ∈ x.1, plain y = true ∧ y.one = true) → (∀ x ∈ D, 0 < x.1.length) → LnOk t h' D acc.length (seen ++ [pl, ps]) → Laid μ0 h0 w0 w' μ' h' t seen μ h acc → tellR n st k D acc h →
      ∃ μ2 av h2, Sim μ2 h2 w' ∧ Ext' μ0 h0 w0 μ2 h2 w' ∧ VR μ2 av v ∧ k av h2
  | [], acc, seen, μ, h, npl, nps, hM, _, _, _, L, hg => by
    have hg : Hp.newK h (.row (tlist acc 0 .e) (len acc) 0 165 false) (fun pl h => Hp.newK h (.row (tlist st 0 .e) (len st) 0 3 false) (fun ps h => k (.agg [.slice pl 0 n 4 false, .nils, .slice ps 0 (len st) 1 false]) h)) := hg
    rw [newK_eq, newK_eq, len_eq, len_eq] at hg
    obtain ⟨vs, rfl, hvs, hone⟩ := hv
    obtain ⟨u1, us1, e1, hu1, u2, us2, e2, hu2, u3, us3, e3, hu3, e4⟩ := hvs
    obtain ⟨a, cap, ev, c1, ⟨c2, ll, hll⟩, c3⟩ := hu1
    obtain ⟨a3, cap3, ev3, d1, ⟨d2, lS, hlS⟩, d3⟩ := hu3
    have own1 : (h'.at pl).own = true := by rw [hl]; rfl
    have own2 : (h'.at ps).own = true := by rw [hs]; rfl
    have W1 := hW pl ll own1 hll
    have W2 := hW ps lS own2 hlS
    have fr1 : ∀ c q, h.at c ≠ .dead → μ c = some q → q.blk ≠ ll.blk := fun c q hc hq he => by
      rcases L.used c q hc hq with hlt | ⟨y, ly, hy, hyo, hly, heq⟩
      · omega
      · have := s'.inj y pl ly ll hyo (fun e => by rw [e] at own1; cases own1) hly hll (by rw [heq, he])
        subst this; exact npl hy
    have s1 := L.sim.addB (o := .row (tlist acc 0 .e) acc.length 0 165 false) fr1 (row_of s' hl hll (by simpa using hM) L.vals L.ones)
    have x1 := L.ext.addB L.sim (o := .row (tlist acc 0 .e) acc.length 0 165 false) W1
    have fr2 : ∀ c q, (h.new (.row (tlist acc 0 .e) acc.length 0 165 false)).at c ≠ .dead → (μ.set h.next ll) c = some q → q.blk ≠ lS.blk := fun c q hc hq he => by
      rw [at_new] at hc
      by_cases ec : c = h.next
      · rw [ec, Mu.set_same] at hq; cases hq
        have := s'.inj pl ps ll lS own1 (fun e => by rw [e] at own2; cases own2) hll hlS he
        exact hne this.symm
      · rw [if_neg ec] at hc
        rw [Mu.set_other _ _ ec] at hq
        rcases L.used c q hc hq with hlt | ⟨y, ly, hy, hyo, hly, heq⟩
        · omega
        · have := s'.inj y ps ly lS hyo (fun e => by rw [e] at own2; cases own2) hly hlS (by rw [heq, he])
          subst this; exact nps hy
    have s2 := s1.addB (o := .row (tlist st 0 .e) st.length 0 3 false) fr2 (row_of (μ := μ.set h.next ll) s' hs hlS hMS (fun i hi v hv => by rw [hst i hi] at hv; exact VR.plain _ _ (pst _ (List.getElem_mem hi)) hv) ost)
    have x2 := x1.addB s1 (o := .row (tlist st 0 .e) st.length 0 3 false) W2
    have hnn : h.next ≠ (h.new (.row (tlist acc 0 .e) acc.length 0 165 false)).next := fun e => by
      have : (h.new (.row (tlist acc 0 .e) acc.length 0 165 false)).next.nat = h.next.nat + 1 := P.nat_succ _
      rw [← e] at this; omega
    refine ⟨_, .agg [.slice h.next 0 n 4 false, .nils, .slice (h.new (.row (tlist acc 0 .e) acc.length 0 165 false)).next 0 st.length 1 false], _, s2, x2, ⟨vs, rfl, ⟨u1, us1, e1, ⟨a, cap, ev, c1, ⟨c2, ll, ?_⟩, ?_⟩, u2, us2, e2, hu2, u3, us3, e3, ⟨a3, cap3, ev3, d1, ⟨d2, lS, Mu.set_same _ _ _⟩, ?_⟩, e4⟩, rfl⟩, hg⟩
    · rw [Mu.set_other _ _ hnn, Mu.set_same]
    · refine c3.imp id fun ⟨l, e, r⟩ => ⟨l, ?_, r⟩
      rw [hll] at e; cases e
      rw [Mu.set_other _ _ hnn, Mu.set_same]
    · refine d3.imp id fun ⟨l, e, r⟩ => ⟨l, ?_, r⟩
      rw [hlS] at e; cases e
      exact Mu.set_same _ _ _
  | x :: D, acc, seen, μ, h, npl, nps, hM, hp, hpos, ⟨q, tq, Mq, wq, t0, t1, t2, t3, ha, hMq, hq, haway, hrest⟩, L, hg => by
    have hg : Hp.newK h (.row (tlist x.1 0 .e) (len x.1) 0 45 false) (fun p h => tellR n st k D (appL acc [.slice p 0 (Nat.div (len x.1) 8) 8 false, .int .i64 (.ofNat x.2.1), .int .i64 (.ofNat x.2.2), .bool false]) h) := hg
    rw [newK_eq, len_eq, appL_eq] at hg
    have ownq : (h'.at q).own = true := by rw [ha]; rfl
    -- the place of the row in the model
    have hv0 := hv
    obtain ⟨vs, _, hvs, _⟩ := hv
    obtain ⟨u1, us1, _, ⟨a, cap, _, _, ⟨_, ll, hll⟩, _⟩, _⟩ := hvs
    have rl := s'.ob pl ll (by rw [hl]; exact fun e => nomatch e) hll
    rw [hl] at rl
    obtain ⟨cs, fz, k1, k2, _, _⟩ := rl
    have hM4 : acc.length + 4 * (D.length + 1) ≤ M := hM
    obtain ⟨u, hu, hur, _⟩ := k2.2.2 acc.length (by omega)
    rw [t0] at hur
    obtain ⟨_, _, _, _, ⟨_, lq, hlq⟩, _⟩ := hur
    have W1 := hW q lq ownq hlq
    have hqs : ∀ y ∈ seen, y ≠ q := fun y hy => haway y (List.mem_append_left _ hy)
    have fr1 : ∀ c p, h.at c ≠ .dead → μ c = some p → p.blk ≠ lq.blk := fun c p hc hp' he => by
      rcases L.used c p hc hp' with hlt | ⟨y, ly, hy, hyo, hly, heq⟩
      · omega
      · have := s'.inj y q ly lq hyo (fun e => by rw [e] at ownq; cases ownq) hly hlq (by rw [heq, he])
        exact hqs y hy this
    have hpx := hp x List.mem_cons_self
    have s1 := L.sim.addB (o := .row (tlist x.1 0 .e) x.1.length 0 45 false) fr1 (row_of s' ha hlq hMq (fun i hi v hv => by rw [hq i hi] at hv; exact VR.plain _ _ (hpx _ (List.getElem_mem hi)).1 hv) fun y hy => (hpx y hy).2)
    have x1 := L.ext.addB L.sim (o := .row (tlist x.1 0 .e) x.1.length 0 45 false) W1
    have hn : μ h.next = Option.none := L.sim.none (Nat.le_refl _)
    have hle := Mu.le_set (l := lq) hn
    refine tellR_ok s' hW hl hs hMS hst pst ost hne hv0 D _ (q :: seen) _ _ (fun hm => ?_) (fun hm => ?_) ?_ (fun y hy => hp y (List.mem_cons_of_mem _ hy)) (fun y hy => hpos y (List.mem_cons_of_mem _ hy)) ?_ ⟨s1, x1, fun c p hc hp' => ?_, fun j hj v hjv => ?_, fun y hy => ?_⟩ hg
    · rcases List.mem_cons.1 hm with e | hm
      · exact haway pl (List.mem_append_right _ (by simp)) e
      · exact npl hm
    · rcases List.mem_cons.1 hm with e | hm
      · exact haway ps (List.mem_append_right _ (by simp)) e
      · exact nps hm
    · simp; omega
    · have : (acc ++ [AV.slice h.next 0 (Nat.div x.1.length 8) 8 false, .int .i64 (.ofNat x.2.1), .int .i64 (.ofNat x.2.2), .bool false]).length = acc.length + 4 := by simp
      rw [this]; exact hrest
    · rw [at_new] at hc
      by_cases ec : c = h.next
      · rw [ec, Mu.set_same] at hp'; cases hp'
        exact .inr ⟨q, lq, List.mem_cons_self, ownq, hlq, rfl⟩
      · rw [if_neg ec] at hc
        rw [Mu.set_other _ _ ec] at hp'
        rcases L.used c p hc hp' with hlt | ⟨y, ly, hy, hr⟩
        · exact .inl hlt
        · exact .inr ⟨y, ly, List.mem_cons_of_mem _ hy, hr⟩
    · by_cases e : j < acc.length
      · rw [List.getElem_append_left e]
        exact VR.mono hle _ _ (L.vals j e v hjv)
      · rw [List.getElem_append_right (by omega)]
        have hj' : j < acc.length + 4 := by simpa using hj
        obtain rfl | rfl | rfl | rfl : j = acc.length ∨ j = acc.length + 1 ∨ j = acc.length + 2 ∨ j = acc.length + 3 := by omega
        · rw [t0, len_eq] at hjv
          simp only [Nat.sub_self, List.getElem_cons_zero]
          obtain ⟨a, cap, ev, c1, ⟨c2, _⟩, c3⟩ := hjv
          refine ⟨a, cap, ev, c1, ⟨c2, lq, Mu.set_same _ _ _⟩, c3.imp id fun ⟨l, e, r⟩ => ⟨l, ?_, r⟩⟩
          rw [hlq] at e; cases e
          exact Mu.set_same _ _ _
        · rw [t1] at hjv
          simp only [Nat.add_sub_cancel_left, List.getElem_cons_succ, List.getElem_cons_zero]
          exact hjv
        · rw [t2] at hjv
          simp only [Nat.add_sub_cancel_left, List.getElem_cons_succ, List.getElem_cons_zero]
          exact hjv
        · rw [t3] at hjv
          simp only [Nat.add_sub_cancel_left, List.getElem_cons_succ, List.getElem_cons_zero]
          exact hjv
    · rcases List.mem_append.1 hy with hy | hy
      · exact L.ones y hy
      · simp only [List.mem_cons, List.not_mem_nil, or_false] at hy
        rcases hy with rfl | rfl | rfl | rfl <;> rfl
end
end Go.Den
