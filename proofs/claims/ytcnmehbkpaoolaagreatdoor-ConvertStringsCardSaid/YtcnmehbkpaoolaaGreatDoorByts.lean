/-
 Part of the proof.
-/
import Derived.Test.YtcnmehbkpaoolaaGreatDoorLex7
import Derived.Lib.MakeNoZero
noncomputable section
namespace Go.Den
open Go.RowKit
set_option maxRecDepth 100000
theorem Bmf {n : Nat} (hn : n ≤ 1099511627776) {h : H} {k : KV} (hk : k (.slice h.next 0 n 1 false) (h.new (.row .e 0 0 TB false))) : W1 (.func 290) [.int .i64 (Int.ofNat n)] h k := by
 intro μ w fn' vargs s gl hfn hv
 have hfn' : fn' = .func 290 := by cases fn' <;> simp only [FnR] at hfn <;> first | (cases hfn; rfl) | cases hfn
 obtain ⟨v, vs, e, h1, h2⟩ := hv
 have h2 : vs = [] := h2
 have h1 : v = .int .i64 (Int.ofNat n) := h1
 subst h2 h1
 have hva : vargs = #[.int .i64 (Int.ofNat n)] := by apply Array.ext'; simpa using e
 subst hva
 obtain ⟨cs, hr, hle, _⟩ := Lib.run_makeNoZero (P := PP) w #[3] 115 TB Proofs.Tryz.underlying115 n (by omega)
 have hrun : (callFunc 290 #[.int .i64 (Int.ofNat n)]).run PP w = .ok (.value (.slice (some ⟨w.heap.size, 0, none⟩) n cs.size)) (w.drew.drew.alloc (.cells cs TB)) := by
  rw [run_callFunc_extern (e := Extern.BytealgMakeNoZero.makeNoZero #[3] #[115]) Proofs.Tryz.func290 (by kernel_rfl) (by kernel_rfl) (by kernel_rfl) (by kernel_rfl)]
  rw [show (Extern.BytealgMakeNoZero.makeNoZero #[3] #[115] #[.int .i64 (Int.ofNat n)]).run PP w = _ from hr]
  rfl
 obtain ⟨s1, x1⟩ := Sim.alloc (s.heap (w' := w.drew.drew) rfl) (.row .e 0 0 TB false) (.cells cs TB) cs.size 0 (fun μ' _ => by
  refine ⟨_, _, Fc w.drew.drew _, ⟨rfl, by show 0 + 0 ≤ cs.size; omega, fun j hj => absurd hj (Nat.not_lt_zero _)⟩, (fun e => nomatch e), fun _ i _ hi => ?_⟩
  intro hh
  omega)
 refine .inl ⟨290, hfn', .inl ⟨_, _, _, _, _, hrun, s1, (Cu.heap μ h (w := w) (w' := w.drew.drew) rfl rfl rfl rfl).trans x1, ?_, hk⟩⟩
 refine ⟨_, _, rfl, hle, ⟨(fun e => nomatch e), _, Mu.Cf _ _ _⟩, .inr ⟨_, Mu.Cf _ _ _, rfl, ?_⟩⟩
 show 0 + 0 + cs.size * 1 ≤ cs.size
 omega
theorem A1z (x : AV) (h : H) : Ao env .cap [115] [x] h = Alz x h := by kernel_rfl
theorem Bgi (x y : AV) (h : H) : Ao env .copy [115, 115] [x, y] h = Tc x y h TB ei8 := by kernel_rfl
theorem Bjn (b : P) (n : Nat) (h : H) : slice3 env h 115 (.slice b 0 n 1 false) none (some (Bg (.int .i64 (Int.ofNat 0)))) none = Fe h (Tf b 0 n 1 false 0 0 none) := by kernel_rfl
theorem Bmh {h : H} {b : P} {t : Tm} {n : Nat} {k : KV} (ha : h.at b = .row t 2 0 149 true) (hb : b.nat < h.next.nat) (h0 : Bd t 0 = .ptr b 0) (h1 : Bd t 1 = .Ad) (hn : n ≤ 1099511627776) (hk : ∀ h', Bld true h' b [] → k (.tuple []) h') : W1 (.func 258) [.ptr b 0, .int .i64 (Int.ofNat n)] h k := by
 refine A94 (n := 1) Bn (Bkh ?_)
 unfold Adw
 rw [Bm, Ae, Eu]
 refine Da ha (by decide) ?_
 rw [h1, A1z, show (Alz AV.Ad h : Option (AV × H)) = some (.int .i64 (Int.ofNat 0), h) from rfl, Ae, Au, As, As]
 have e1 : wrap .i64 (Br (wrap .i64 (Int.ofNat 2 * Int.ofNat 0)) (Int.ofNat n)) = Int.ofNat n := by
  rw [show wrap .i64 (Int.ofNat 2 * Int.ofNat 0) = Int.ofNat 0 by kernel_rfl, Hf, show Int.ofNat 0 + Int.ofNat n = Int.ofNat n by show (0 : Int) + (n : Int) = (n : Int); omega]
  exact Co (by omega)
 rw [e1, Bm, Ae, Eu]
 refine Da ha (by decide) ?_
 rw [h1]
 refine Bmf hn ?_
 have ha1 : (h.new (.row .e 0 0 TB false)).at b = .row t 2 0 149 true := by rw [Dh hb]; exact ha
 refine Da ha1 (by decide) ?_
 rw [h1, Avc, Bjn]
 have e2 : (Fe (h.new (.row .e 0 0 TB false)) (Tf h.next 0 n 1 false 0 0 none) : Option (AV × H)) = some (.slice h.next 0 0 1 false, h.new (.row .e 0 0 TB false)) := by
  cases n <;> rfl
 rw [e2, Ae, Bm, Ae, Eu]
 refine Da ha1 (by decide) ?_
 rw [h1, Bgi]
 have e3 : ∃ h3, (Tc (.slice h.next 0 0 1 false) .Ad (h.new (.row .e 0 0 TB false)) TB ei8 : Option (AV × H)) = some (.int .i64 (Int.ofNat 0), h3) ∧ h3 = (h.new (.row .e 0 0 TB false)).put h.next (.row .e 0 0 TB false) := by
  refine ⟨_, ?_, rfl⟩
  show (Uu 0 ((h.new (.row .e 0 0 TB false)).write h.next 0 []) : Option (AV × H)) = _
  have : (h.new (.row .e 0 0 TB false)).write h.next 0 [] = some ((h.new (.row .e 0 0 TB false)).put h.next (.row .e 0 0 TB false)) := by
   unfold Hp.write Hp.Gn
   rw [Ax]
   show (h.new (.row .e 0 0 TB false)).Px h.next (.row .e 0 0 TB false) some = _
   rw [Lo]
  rw [this]; rfl
 obtain ⟨h3, e3, e4⟩ := e3
 rw [e3, Ae, Au, Bm, Ae, Eu]
 have hbn : b ≠ h.next := fun e => by subst e; exact absurd hb (Nat.lt_irrefl _)
 have a3 : h3.at b = .row t 2 0 149 true := by rw [e4, Bx hbn]; exact ha1
 have n3 : h3.next.nat = h.next.nat + 1 := by rw [e4]; exact Bf (o := .row .e 0 0 TB false)
 refine Bld.fin (g := true) (l := []) a3 (by omega) h0 (.inr ⟨h.next, .e, 0, 0, false, rfl, by omega, by rw [e4, Bo], Nat.le_refl _, Nat.le_refl _, fun i hi => absurd hi (Nat.not_lt_zero _), .inl rfl⟩) fun h' hb' => hk h' hb'
theorem Bml {h : H} {n : Nat} {k : KV} (hn1 : 1 ≤ n) (hn : n ≤ 1099511627776) (hk : ∀ h', Bld true h' h.next [] → k (.tuple []) h') : W1 (.func 208) [.ptr h.next 0, .int .i64 (Int.ofNat n)] (h.new Xb) k := by
 refine A99 (n := 2) Bn (Bkm ?_)
 unfold Ad2
 refine A0s (t := Ah [.Ft, .Ad] 0 .e) (Ax _ _) (.inl (by kernel_rfl)) fun h1 t1 a1 p1 q1 n1 f1 => ?_
 have q1 : Bd t1 1 = .Ad := q1
 refine Bp (by rw [Fm]; exact decide_eq_false (by show ¬ ((n : Int) < ((0 : Nat) : Int)); omega)) ?_
 refine A4y ?_
 unfold Ad1
 rw [Bm, Ae, Eu]
 refine Da a1 (by decide) ?_
 rw [q1, A1z, show (Alz AV.Ad h1 : Option (AV × H)) = some (.int .i64 (Int.ofNat 0), h1) from rfl, Ae, Au, Bm, Ae, Eu]
 refine Da a1 (by decide) ?_
 rw [q1, Acr, show wrap .i64 (Jp (Int.ofNat 0) (Int.ofNat 0)) = Int.ofNat 0 by kernel_rfl, As]
 refine Cg (by rw [Fm]; exact decide_eq_true (by show ((0 : Nat) : Int) < (n : Int); omega)) ?_
 exact Bmh a1 (by rw [n1, Bf]; omega) p1 q1 hn fun h' hb' => hk h' hb'
def isU (x : UInt8) : Bool := decide (65 ≤ x.toNat) && decide (x.toNat ≤ 90)
def Ap6 (x : UInt8) : UInt8 := if isU x then x + 32 else x
def Ll (s : List UInt8) : List UInt8 := s.map Ap6
theorem Aio {s : List UInt8} (h : s.any isU = false) : Ll s = s := by
 unfold Ll
 rw [List.any_eq_false] at h
 conv => rhs; rw [← List.map_id s]
 apply List.map_congr_left
 intro x hx
 have := h x hx
 unfold Ap6
 rw [if_neg this]; rfl
theorem Aaq {i : Nat} (h : i < 9223372036854775807) : wrap .i64 (Br (Int.ofNat i) (Int.ofNat 1)) = Int.ofNat (i + 1) := by
 rw [Hf, show Int.ofNat i + Int.ofNat 1 = Int.ofNat (i + 1) from rfl]
 exact Co (by omega)
theorem upK {x : UInt8} {h : H} {k : Bool → H → Prop} (hk : k (isU x) h) : Am (fun k6 => gate true (Fk (Int.ofNat 65) (Int.ofNat x.toNat)) (k6 (Fk (Int.ofNat x.toNat) (Int.ofNat 90)) h) (k6 false h)) k := by
 refine So ?_
 have : (Fk (Int.ofNat 65) (Int.ofNat x.toNat) && Fk (Int.ofNat x.toNat) (Int.ofNat 90)) = isU x := by
  rw [Jj, Jj]; unfold isU
  congr 1 <;> (rw [Bool.eq_iff_iff, decide_eq_true_eq, decide_eq_true_eq]; exact Int.ofNat_le)
 rw [this]; exact hk
def ascii (s : List UInt8) : Prop := ∀ x ∈ s, x.toNat < 128
theorem Awe {s : List UInt8} {k : KV} {e : Nat} (hs : ascii s) (hl : s.length ≤ 1099511627776) : ∀ (n i : Nat) (u : Bool), s.length - i + e + 1 ≤ n → i ≤ s.length → (∀ n', e ≤ n' → (Nk W1 k n').a5 s.length (enc s) true (u || (s.drop i).any isU) h0) → (Nk W1 k n).a1 s.length (enc s) true u (Int.ofNat i) h0
 | 0, _, _, hn, _, _ => absurd hn (by omega)
 | n + 1, i, u, hn, hi, hk => by
  refine A49 ?_
  unfold Aen
  rw [Fm]
  refine Aw (fun e' => ?_) (fun e' => ?_)
  · have e' : i < s.length := Int.ofNat_lt.1 (of_decide_eq_true e')
    rw [Ar]
    refine Ck e' ?_
    have hx : (s[i]).toNat < 128 := hs _ (List.getElem_mem e')
    refine Bp (by rw [Jj]; exact decide_eq_false fun h => by have := Int.ofNat_le.1 h; omega) ?_
    have hd : s.drop i = s[i] :: s.drop (i + 1) := List.drop_eq_getElem_cons e'
    refine Ma (b := isU s[i]) (fun k' hk' => upK hk') ?_
    rw [Aaq (by omega), As]
    refine Awe (e := e) hs hl n (i + 1) _ (by omega) e' ?_
    intro n' hn'
    have := hk n' hn'
    rw [hd, List.any_cons, ← Bool.or_assoc] at this
    exact this
  · have e' : ¬ i < s.length := fun h => (of_decide_eq_false e') (Int.ofNat_lt.2 h)
    have hd : s.drop i = [] := by rw [List.drop_eq_nil_iff]; omega
    have := hk n (by omega)
    rw [hd] at this
    simpa using this
theorem A2s {x : UInt8} (h : isU x = true) : wrap .u8 (Br (Int.ofNat x.toNat) (Int.ofNat 32)) = Int.ofNat (Ap6 x).toNat := by
 unfold Ap6
 rw [if_pos h]
 have hx : x.toNat ≤ 90 := by unfold isU at h; simp at h; exact h.2
 have : (x + 32).toNat = x.toNat + 32 := by
  rw [UInt8.toNat_add]; show (x.toNat + 32) % 256 = _; omega
 rw [this, Hf, Ga]
 show IntKind.wrap .u8 ((x.toNat + 32 : Nat) : Int) = ((x.toNat + 32 : Nat) : Int)
 simp [IntKind.wrap, IntKind.bits, IntKind.signed]
 omega
theorem Ain {s : List UInt8} {p i : Nat} (hp : p ≤ i) (h : ((s.drop p).take (i - p)).any isU = false) : Ll (s.take i) = Ll (s.take p) ++ (s.drop p).take (i - p) := by
 have e : s.take i = s.take p ++ (s.drop p).take (i - p) := by
  have := List.take_add (l := s) (i := p) (j := i - p)
  rw [show p + (i - p) = i by omega] at this; exact this
 rw [e]
 unfold Ll
 rw [List.map_append]
 congr 1
 exact Aio h
theorem Al2 {s : List UInt8} {k : KV} {b : P} (hl : s.length ≤ 1099511627776) (hne : s ≠ []) (hk : ∀ h, k (S (Ll s)) h) : ∀ (n i p : Nat) (g : Bool) (h : H), 3 * (s.length - i) + 1 ≤ n → i ≤ s.length → p ≤ i → ((s.drop p).take (i - p)).any isU = false → Bld g h b (Ll (s.take p)) → (Nk W1 k n).a2 s.length (enc s) (.ptr b 0) (Int.ofNat p) (Int.ofNat i) h
 | 0, _, _, _, _, hn, _, _, _, _ => absurd hn (by omega)
 | n + 1, i, p, g, h, hn, hi, hp, ha, hb => by
  refine A48 ?_
  unfold Aem
  rw [Fm]
  refine Aw (fun e' => ?_) (fun e' => ?_)
  · have e' : i < s.length := Int.ofNat_lt.1 (of_decide_eq_true e')
    have htk : s.take (i + 1) = s.take i ++ [s[i]] := by rw [List.take_add_one, List.getElem?_eq_getElem e']; rfl
    rw [Ar]
    refine Ck e' ?_
    refine upK ?_
    refine Aw (fun eu => ?_) (fun eu => ?_)
    · rw [A2s eu, As]
      have step : ∀ g' h', Bld g' h' b (Ll (s.take i)) → (Nk W1 k n).a3 s.length (enc s) (.ptr b 0) (Int.ofNat i) (Int.ofNat (Ap6 s[i]).toNat) h' := by
       intro g' h' hb'
       obtain ⟨m, rfl⟩ : ∃ m, n = m + 2 := ⟨n - 2, by omega⟩
       refine A47 ?_
       unfold Ael
       refine Awi hb' (by unfold Ll; rw [List.length_map, List.length_take]; omega) fun h2 hb2 => ?_
       rw [Aaq (by omega), As]
       refine Aub ?_
       unfold Zj
       rw [Aaq (by omega), As]
       refine Al2 hl hne hk m (i + 1) (i + 1) false h2 (by omega) e' (Nat.le_refl _) (by simp) ?_
       rw [htk]; unfold Ll at hb2 ⊢; rw [List.map_append]; exact hb2
      rw [Fm]
      refine Aw (fun e2 => ?_) (fun e2 => ?_)
      · have e2 : p < i := Int.ofNat_lt.1 (of_decide_eq_true e2)
        rw [Ar, Ar]
        refine Wq hp (by omega) ?_
        refine c61 hb (fun h => ?_) ?_ fun v h' hb' => ?_
        · have := congrArg List.length h
          simp at this; omega
        · unfold Ll; rw [List.length_map, List.length_take, List.length_take, List.length_drop]; omega
        · refine step false h' ?_
          rw [Ain hp ha]; exact hb'
      · have e2 : p = i := by
         have : ¬ p < i := fun h => (of_decide_eq_false e2) (Int.ofNat_lt.2 h)
         omega
        subst e2
        exact step g h hb
    · obtain ⟨m, rfl⟩ : ∃ m, n = m + 1 := ⟨n - 1, by omega⟩
      refine Aub ?_
      unfold Zj
      rw [Aaq (by omega), As]
      refine Al2 hl hne hk m (i + 1) p g h (by omega) e' (by omega) ?_ hb
      have e3 : (s.drop p).take (i + 1 - p) = (s.drop p).take (i - p) ++ [s[i]] := by
       rw [show i + 1 - p = (i - p) + 1 by omega, List.take_add_one, List.getElem?_drop, show p + (i - p) = i by omega, List.getElem?_eq_getElem e']; rfl
      rw [e3, List.any_append, ha]; simp [eu]
  · have e' : i = s.length := by
     have : ¬ i < s.length := fun h => (of_decide_eq_false e') (Int.ofNat_lt.2 h)
     omega
    subst e'
    have hlow : Ll s = Ll (s.take p) ++ (s.drop p).take (s.length - p) := by
     have := Ain hp ha
     rw [List.take_length] at this; exact this
    have hlne : Ll s ≠ [] := by unfold Ll; simpa using hne
    have hll : (Ll s).length ≤ 9223372036854775807 := by unfold Ll; rw [List.length_map]; omega
    rw [Fm]
    refine Aw (fun e2 => ?_) (fun e2 => ?_)
    · have e2 : p < s.length := Int.ofNat_lt.1 (of_decide_eq_true e2)
      rw [Ar]
      refine Wq hp (Nat.le_refl _) ?_
      refine c61 hb (fun h => ?_) ?_ fun v h' hb' => ?_
      · have := congrArg List.length h
        simp at this; omega
      · unfold Ll; rw [List.length_map, List.length_take, List.length_take, List.length_drop]; omega
      · rw [← hlow] at hb'
        refine c63 hb' (.inr hlne) hll fun h2 => ?_
        rw [Ch]; exact hk h2
    · have e2 : p = s.length := by
       have : ¬ p < s.length := fun h => (of_decide_eq_false e2) (Int.ofNat_lt.2 h)
       omega
      subst e2
      rw [List.take_length] at hb
      refine c63 hb (.inr hlne) hll fun h2 => ?_
      rw [Ch]; exact hk h2
theorem Bmv (s : List UInt8) (hs : ascii s) (hl : s.length ≤ 1099511627776) : Pure PP G h0 161 [S s] (S (Ll s)) := by
 refine Bak (n := 4 * s.length + 10) Bn (Bkx ?_)
 unfold Aeo
 refine Awe (e := 3 * s.length + 2) hs hl _ 0 false (by omega) (Nat.zero_le _) ?_
 intro n' hn'
 rw [List.drop_zero, Bool.false_or]
 obtain ⟨m, rfl⟩ : ∃ m, n' = m + 1 := ⟨n' - 1, by omega⟩
 refine A46 ?_
 unfold Aek
 refine Cg rfl ?_
 refine Aw (fun e => ?_) (fun e => ?_)
 · rw [Bw] at e
   have e : s.any isU = false := by simpa using e
   rw [Aio e]
 · rw [Bw] at e
   have e : s.any isU = true := by simpa using e
   have hne : s ≠ [] := fun h => by subst h; cases e
   have hpos : 1 ≤ s.length := by
    cases s with
    | nil => exact absurd rfl hne
    | cons _ _ => simp
   refine El ?_
   refine Bml hpos hl fun h' hb' => ?_
   refine Al2 hl hne (fun _ => rfl) m 0 0 true h' (by omega) (Nat.zero_le _) (Nat.le_refl _) (by simp) ?_
   exact hb'
theorem Bmu (L : List UInt8) (x : UInt8) (hx : x.toNat < 128) : Pure PP G h0 162 [S L, .int .i32 (Int.ofNat x.toNat)] (.int .i64 (Xr L x)) := by
 refine Baj (n := 1) Bn (Bkw ?_)
 unfold Aej
 refine So ?_
 have e1 : (Fk (Int.ofNat 0) (Int.ofNat x.toNat) && Cs (Int.ofNat x.toNat) (Int.ofNat 128)) = true := by
  rw [ile, ilt, decide_eq_true (Nat.zero_le _), decide_eq_true hx]; rfl
 refine Cg e1 ?_
 have e2 : wrap .u8 (Int.ofNat x.toNat) = Int.ofNat x.toNat := by
  rw [Ga]
  simp [IntKind.wrap, IntKind.bits, IntKind.signed]
  omega
 rw [e2, As]
 refine Dq (A84 L x) ?_
 rw [Au]
def Ap5 : List UInt8 := [48, 49, 50, 51, 52, 53, 54, 55, 56, 57, 97, 98, 99, 100, 101, 102]
def Aln (c : UInt8) : Nat := if c.toNat ≤ 57 then c.toNat - 48 else c.toNat - 87
theorem A0d : ∀ x ∈ Ap5, Xr Gj x = Int.ofNat (Aln x) := by
 intro x hx
 simp only [Ap5, List.mem_cons, List.not_mem_nil, or_false] at hx
 rcases hx with rfl | rfl | rfl | rfl | rfl | rfl | rfl | rfl | rfl | rfl | rfl | rfl | rfl | rfl | rfl | rfl <;> kernel_rfl
theorem A8o : ∀ x ∈ Ap5, Aln x ≤ 15 := by decide
theorem Azn : ∀ x ∈ Gj, Ap6 x ∈ Ap5 := by decide
theorem Atz : ∀ x ∈ Ap5, x.toNat < 128 := by decide
theorem Azx : ∀ x ∈ Gj, x.toNat < 128 := by decide
theorem Azc : ∀ x ∈ Aab, x ∈ Gj := by decide
def Bbb (B v : Nat) (ds : List UInt8) : Nat := ds.foldl (fun v c => (v * B + Aln c) &&& 4095) v
def Qn : List UInt8 := [39, 34, 63, 92, 97, 98, 102, 110, 114, 116, 118]
def All : List UInt8 := [39, 34, 63, 92, 7, 8, 12, 10, 13, 9, 11]
def Tv (x : UInt8) : Option UInt8 :=
 if x = 39 then some 39 else if x = 34 then some 34 else if x = 63 then some 63 else if x = 92 then some 92 else if x = 97 then some 7 else if x = 98 then some 8
 else if x = 102 then some 12 else if x = 110 then some 10 else if x = 114 then some 13 else if x = 116 then some 9 else if x = 118 then some 11 else none
theorem Ayh : ∀ x ∈ Qn, ∃ i y, Xr Qn x = Int.ofNat i ∧ Tv x = some y ∧ ∃ h : i < All.length, All[i] = y := by
 intro x hx
 simp only [Qn, List.mem_cons, List.not_mem_nil, or_false] at hx
 rcases hx with rfl | rfl | rfl | rfl | rfl | rfl | rfl | rfl | rfl | rfl | rfl
 · exact ⟨0, _, by kernel_rfl, rfl, by decide, rfl⟩
 · exact ⟨1, _, by kernel_rfl, rfl, by decide, rfl⟩
 · exact ⟨2, _, by kernel_rfl, rfl, by decide, rfl⟩
 · exact ⟨3, _, by kernel_rfl, rfl, by decide, rfl⟩
 · exact ⟨4, _, by kernel_rfl, rfl, by decide, rfl⟩
 · exact ⟨5, _, by kernel_rfl, rfl, by decide, rfl⟩
 · exact ⟨6, _, by kernel_rfl, rfl, by decide, rfl⟩
 · exact ⟨7, _, by kernel_rfl, rfl, by decide, rfl⟩
 · exact ⟨8, _, by kernel_rfl, rfl, by decide, rfl⟩
 · exact ⟨9, _, by kernel_rfl, rfl, by decide, rfl⟩
 · exact ⟨10, _, by kernel_rfl, rfl, by decide, rfl⟩
theorem Arv {x : UInt8} (h : x ∉ Qn) : Tv x = none := by
 simp [Qn] at h
 obtain ⟨h1, h2, h3, h4, h5, h6, h7, h8, h9, h10, h11⟩ := h
 unfold Tv
 rw [if_neg h1, if_neg h2, if_neg h3, if_neg h4, if_neg h5, if_neg h6, if_neg h7, if_neg h8, if_neg h9, if_neg h10, if_neg h11]
def Aac (s : List UInt8) (n f B : Nat) : UInt8 × Nat := if n ≤ f then (0, 0) else (UInt8.ofNat (Bbb B 0 (Ll ((s.drop f).take (n - f)))), n)
def Et (s : List UInt8) : UInt8 × Nat := match s with
 | [] => (0, 0)
 | c :: r => match Tv c with
  | some y => (y, 1)
  | none => if c = 120 then Aac (c :: r) (1 + Cn r Gj) 1 16 else Aac (c :: r) (min (Cn (c :: r) Aab) 3) 0 8
theorem A4t {a b : Nat} {K : Int → Prop} (ha : a ≤ 9223372036854775807) (hb : b ≤ 9223372036854775807) (hk : K (Int.ofNat (a &&& b))) : Ab2 Nat.land .i64 (Int.ofNat a) (Int.ofNat b) K := by
 show (Bool.rec False (fN (Nat.land a b) (fun n => K (.ofNat n))) (Ai (Nat.ble a (intMax .i64)) (Nat.ble b (intMax .i64))) : Prop)
 rw [Nat.ble_eq_true_of_le (show a ≤ intMax .i64 from ha), Nat.ble_eq_true_of_le (show b ≤ intMax .i64 from hb)]
 exact hk
theorem A4e {h : H} {p : P} {s : List UInt8} {i : Nat} (ha : h.at p = .iter s.length (enc s) i) : Tb (.ptr p 0) true h = Np p s.length (enc s) i h := by
 unfold Tb
 simp only [ha]
 rfl
theorem Bjs (l c : Nat) (h : H) : Od env 9 (.str l c) h = some (.ptr h.next 0, h.new (.iter l c 0)) := by kernel_rfl
theorem wrap_u8 (n : Nat) : wrap .u8 (Int.ofNat n) = Int.ofNat (UInt8.ofNat n).toNat := by
 rw [Ga]
 have : (UInt8.ofNat n).toNat = n % 256 := by simp
 rw [this]
 simp [IntKind.wrap, IntKind.bits, IntKind.signed]
theorem Awh {ds : List UInt8} {B n5 : Nat} {p : P} {k : KV} (hds : ∀ x ∈ ds, x ∈ Ap5) (hB : B ≤ 16) : ∀ (n i v : Nat) (h : H), ds.length - i < n → i ≤ ds.length → v ≤ 4095 → h.at p = .iter ds.length (enc ds) i →
    (∀ h', k (.tuple [ub (UInt8.ofNat (Bbb B v (ds.drop i))), .int .i64 (Int.ofNat n5)]) h') → (Zv W1 k n).a1 (Int.ofNat n5) (Int.ofNat B) (Int.ofNat v) (.ptr p 0) h
  | 0, _, _, _, hn, _, _, _, _ => absurd hn (Nat.not_lt_zero _)
  | n + 1, i, v, h, hn, hi, hv, ha, hk => by
    refine A5j ?_
    unfold Afl
    rw [A4e ha]
    by_cases e : i < ds.length
    · have hd : ds.drop i = ds[i] :: ds.drop (i + 1) := List.drop_eq_getElem_cons e
      have hx := hds _ (List.getElem_mem e)
      have hx1 := Atz _ hx
      have e1 : Np p ds.length (enc ds) i h = some (.tuple [.bool true, .int .i64 (.ofNat i), .int .i32 (.ofNat (ds[i]).toNat)], h.put p (.iter ds.length (enc ds) (Nat.add i 1))) := by
        unfold Np
        rw [Nat.ble_eq_true_of_le (show Nat.add i 1 ≤ ds.length from e), Aov e]
        have : Nat.ble 128 (ds[i]).toNat = false := by
          cases hb : Nat.ble 128 (ds[i]).toNat with
          | false => rfl
          | true => exact absurd (Nat.le_of_ble_eq_true hb) (by omega)
        rw [this]
      rw [e1, Ae, Eo, Ce]
      refine Cg rfl ?_
      rw [A1s, Au]
      have hdl := A8o _ hx
      have hm : v * B ≤ 4095 * 16 := Nat.mul_le_mul hv hB
      have w1 : wrap .i64 (Int.ofNat v * Int.ofNat B) = Int.ofNat (v * B) := by
        rw [show Int.ofNat v * Int.ofNat B = Int.ofNat (v * B) from rfl]; exact Co (by omega)
      rw [w1, As]
      refine Dq (Bmu Gj ds[i] hx1) ?_
      rw [Au, A0d _ hx]
      have w2 : wrap .i64 (Br (Int.ofNat (v * B)) (Int.ofNat (Aln ds[i]))) = Int.ofNat (v * B + Aln ds[i]) := by
        rw [Hf, show Int.ofNat (v * B) + Int.ofNat (Aln ds[i]) = Int.ofNat (v * B + Aln ds[i]) from rfl]; exact Co (by omega)
      rw [w2, As]
      refine A4t (by omega) (by omega) ?_
      refine Awh hds hB n (i + 1) _ _ (by omega) e Nat.and_le_right (Bo _ _ _) ?_
      rw [hd] at hk
      exact hk
    · have hd : ds.drop i = [] := by rw [List.drop_eq_nil_iff]; omega
      have e1 : Np p ds.length (enc ds) i h = some (.tuple [.bool false], h) := by
        unfold Np
        have : Nat.ble (Nat.add i 1) ds.length = false := by
          cases hb : Nat.ble (Nat.add i 1) ds.length with
          | false => rfl
          | true => exact absurd (Nat.le_of_ble_eq_true hb) (by show ¬ i + 1 ≤ _; omega)
        rw [this]
      rw [e1, Ae, Eo, Ce]
      refine Bp rfl ?_
      rw [wrap_u8, As]
      rw [hd] at hk
      exact hk h
theorem Awg {s : List UInt8} {n f B m : Nat} {k : KV} (hl : s.length ≤ 1099511627776) (hn : n ≤ s.length) (hd : ∀ x ∈ (s.drop f).take (n - f), x ∈ Gj) (hB : B ≤ 16) (hm : s.length + 2 ≤ m)
 (hk : ∀ h', k (.tuple [ub (Aac s n f B).1, .int .i64 (Int.ofNat (Aac s n f B).2)]) h') : (Zv W1 k (m + 1)).a2 s.length (enc s) (Int.ofNat n) (Int.ofNat B) (Int.ofNat f) h0 := by
 refine A5i ?_
 unfold Afk
 rw [Jj]
 unfold Aac at hk
 refine Aw (fun e => ?_) (fun e => ?_)
 · have e : n ≤ f := Int.ofNat_le.1 (of_decide_eq_true e)
   rw [if_pos e] at hk; exact hk _
 · have e : ¬ n ≤ f := fun h => (of_decide_eq_false e) (Int.ofNat_le.2 h)
   rw [if_neg e] at hk
   rw [Ar, Ar]
   refine Wq (by omega) hn ?_
   have ll : ((s.drop f).take (n - f)).length ≤ s.length := by rw [List.length_take, List.length_drop]; omega
   refine Dq (Bmv _ (fun x hx => Azx x (hd x hx)) (by omega)) ?_
   rw [Ch, Bjs, Ae]
   have l2 : (Ll ((s.drop f).take (n - f))).length ≤ s.length := by unfold Ll; rw [List.length_map]; exact ll
   refine Awh (fun x hx => ?_) hB _ 0 0 _ (by omega) (Nat.zero_le _) (Nat.zero_le _) (Ax _ _) ?_
   · obtain ⟨y, hy, rfl⟩ := List.mem_map.1 hx
     exact Azn y (hd y hy)
   · rw [List.drop_zero]; exact hk
theorem Aro (s set : List UInt8) : s.take (Cn s set) = s.takeWhile (· ∈ set) := (List.prefix_iff_eq_take.1 (List.takeWhile_prefix _)).symm
theorem Afo {s set : List UInt8} {x : UInt8} {n : Nat} (hn : n ≤ Cn s set) (hx : x ∈ s.take n) : x ∈ set := by
 have h1 : x ∈ s.take (Cn s set) := List.take_subset_take_left _ hn hx
 rw [Aro] at h1
 have := List.all_eq_true.1 List.all_takeWhile x h1
 simpa using this
theorem Bjz (n : Nat) (h : H) : Ao env .min [3, 3] [.int .i64 (Int.ofNat n), .int .i64 (Int.ofNat 3)] h = some (.int .i64 (Int.ofNat (min n 3)), h) := by
 have e : Ao env .min [3, 3] [.int .i64 (Int.ofNat n), .int .i64 (Int.ofNat 3)] h = some (.int .i64 (Bool.rec (Int.ofNat n) (Int.ofNat 3) (Cs (Int.ofNat 3) (Int.ofNat n))), h) := by kernel_rfl
 rw [e, ilt]
 by_cases hc : 3 < n
 · rw [decide_eq_true hc, Nat.min_eq_right (by omega)]
 · rw [decide_eq_false hc, Nat.min_eq_left (by omega)]
theorem Bg0 (s : List UInt8) (hl : s.length ≤ 1099511627776) : Pure PP G h0 108 [S s] (.tuple [ub (Et s).1, .int .i64 (Int.ofNat (Et s).2)]) := by
 refine Ba9 (n := s.length + 10) Bn (Bln ?_)
 unfold Afm
 cases s with
 | nil => exact Cg rfl rfl
 | cons c r =>
  refine Bp (Ky c r) ?_
  refine Ck (s := c :: r) (Nat.zero_lt_succ _) ?_
  refine Dq (A84 Qn c) ?_
  rw [Au, Jj]
  by_cases hin : c ∈ Qn
  · obtain ⟨i, y, e1, e2, e3, e4⟩ := Ayh c hin
    have ee : Et (c :: r) = (y, 1) := by show (match Tv c with | some y => (y, 1) | none => _) = _; rw [e2]
    show cnd (decide (Int.ofNat 0 ≤ Xr Qn c)) _ _
    rw [e1]
    refine Cg (decide_eq_true (Int.ofNat_le.2 (Nat.zero_le _))) ?_
    rw [Ar]
    refine Ck (s := All) e3 ?_
    show AV.tuple [_, _] = AV.tuple [_, _]
    rw [ee, e4]; rfl
  · have hneg : Xr Qn c < 0 := (Zw Qn c).2 hin
    have es := Arv hin
    refine Bp (decide_eq_false fun h => by have : (0 : Int) ≤ Xr Qn c := h; omega) ?_
    refine Dq (Aqx Atk (by decide) (c :: r) (by omega)) ?_
    rw [Au, Bjz, Ae, Au]
    refine Ck (s := c :: r) (Nat.zero_lt_succ _) ?_
    rw [toNat_eq _ 120 (by decide)]
    have hlr : r.length ≤ 1099511627776 := by simp at hl; omega
    refine Aw (fun e => ?_) (fun e => ?_)
    · have e : c = 120 := of_decide_eq_true e
      refine Fv (s := c :: r) (Nat.le_add_left 1 _) ?_
      refine Dq (Aqx Ald (by decide) r (by omega)) ?_
      have hr := Ln r Gj
      have w1 : wrap .i64 (Br (Int.ofNat 1) (Int.ofNat (Cn r Gj))) = Int.ofNat (1 + Cn r Gj) := by
       rw [Hf, show Int.ofNat 1 + Int.ofNat (Cn r Gj) = Int.ofNat (1 + Cn r Gj) from rfl]; exact Co (by omega)
      rw [Au, w1, As]
      refine Awg (s := c :: r) (n := 1 + Cn r Gj) (f := 1) (B := 16) hl (by simp; omega) (fun x hx => ?_) (Nat.le_refl _) (by omega) fun h' => ?_
      · rw [List.drop_succ_cons, List.drop_zero, show 1 + Cn r Gj - 1 = Cn r Gj by omega] at hx
        exact Afo (Nat.le_refl _) hx
      · have ee : Et (c :: r) = Aac (c :: r) (1 + Cn r Gj) 1 16 := by
         show (match Tv c with | some y => (y, 1) | none => _) = _
         rw [es]; exact if_pos e
        rw [ee]
    · have e : ¬ c = 120 := of_decide_eq_false e
      have hr := Ln (c :: r) Aab
      refine Awg (s := c :: r) (n := min (Cn (c :: r) Aab) 3) (f := 0) (B := 8) hl (by omega) (fun x hx => ?_) (by decide) (by omega) fun h' => ?_
      · rw [List.drop_zero, Nat.sub_zero] at hx
        exact Azc x (Afo (Nat.min_le_left _ _) hx)
      · have ee : Et (c :: r) = Aac (c :: r) (min (Cn (c :: r) Aab) 3) 0 8 := by
         show (match Tv c with | some y => (y, 1) | none => _) = _
         rw [es]; exact if_neg e
        rw [ee]
theorem Ao2 (s : List UInt8) : (Et s).2 ≤ s.length := by
 cases s with
 | nil => exact Nat.le_refl _
 | cons c r =>
  show (match Tv c with | some y => (y, 1) | none => if c = 120 then Aac (c :: r) (1 + Cn r Gj) 1 16 else Aac (c :: r) (min (Cn (c :: r) Aab) 3) 0 8 : UInt8 × Nat).2 ≤ _
  have key : ∀ n f B, n ≤ (c :: r).length → (Aac (c :: r) n f B).2 ≤ (c :: r).length := by
   intro n f B hn
   unfold Aac
   split
   · exact Nat.zero_le _
   · exact hn
  cases Tv c with
  | some y => exact Nat.le_add_left 1 _
  | none =>
   have h1 := Ln r Gj
   have h2 := Ln (c :: r) Aab
   show (if c = 120 then _ else _ : UInt8 × Nat).2 ≤ _
   split
   · exact key _ _ _ (by simp; omega)
   · exact key _ _ _ (by omega)
def Nl : List UInt8 → Bool
 | [] => false
 | c :: _ => decide (c = 34) || decide (c = 39)
def Ot : List (List UInt8) := [[], [76], [117], [85], [117, 56]]
def Dg : List (List UInt8) → List UInt8 → List UInt8 × Bool
 | [], _ => ([], false)
 | s :: ss, text => if (decide (text.take s.length = s) && Nl (text.drop s.length)) then (s, true) else Dg ss text
def Be (text : List UInt8) : List UInt8 × Bool := Dg Ot text
def T5b : Tm := Option.rec .e (fun t => t) (Xk (Wc 1) 5 [(0, .str 0 0), (1, .str 1 76), (2, .str 1 117), (3, .str 1 85), (4, .str 2 14453)] (Ah (Kc [.str 0 0] 5) 0 .e))
theorem b5b (h : H) : An env 44 (fun e ei => Aj 5 [(0, (.str 0 0)), (1, (.str 1 76)), (2, (.str 1 117)), (3, (.str 1 85)), (4, (.str 2 14453))] h e ei) = some (.slice h.next 0 5 1 true, h.new (.row T5b 5 0 9 true)) := by kernel_rfl
theorem A34 {h : H} {b : P} (ha : h.at b = .row T5b 5 0 9 true) {r : Nat} (hr : r < 5) {K : Nat → Nat → Prop} (hk : ∀ t rest, Ot.drop r = t :: rest → rest = Ot.drop (r + 1) → K t.length (enc t)) : Ca 1 r (.slice b 0 5 1 true) fun v => ld1 v h fun v => asS v K := by
 have key : ∀ t, Ot.drop r = t :: Ot.drop (r + 1) → Bd T5b r = S t → Ca 1 r (.slice b 0 5 1 true) fun v => ld1 v h fun v => asS v K := by
  intro t ht e
  have hb : Ca 1 r (.slice b 0 5 1 true) (fun v => ld1 v h fun v => asS v K) = ld1 (.ptr b r) h fun v => asS v K := by
   match r, hr with
   | 0, _ | 1, _ | 2, _ | 3, _ | 4, _ => rfl
  rw [hb]
  refine Da ha hr ?_
  rw [e]
  exact hk t _ ht rfl
 match r, hr with
 | 0, _ => exact key [] rfl (by kernel_rfl)
 | 1, _ => exact key [76] rfl (by kernel_rfl)
 | 2, _ => exact key [117] rfl (by kernel_rfl)
 | 3, _ => exact key [85] rfl (by kernel_rfl)
 | 4, _ => exact key [117, 56] rfl (by kernel_rfl)
theorem Bgx (s t : List UInt8) : Pure PP G h0 163 [S s, S t] (if s.take t.length = t then .tuple [S (s.drop t.length), .bool true] else .tuple [S s, .bool false]) := by
 refine Bai (n := 1) Bn (Bkv ?_)
 unfold Aei
 refine Dq (Bgv s t) ?_
 rw [Ce, Bw]
 refine Aw (fun e => ?_) (fun e => ?_)
 · have e : ¬ s.take t.length = t := by simpa using e
   rw [if_neg e]
 · have e : s.take t.length = t := by simpa using e
   have : t.length ≤ s.length := by have := congrArg List.length e; simp at this; omega
   refine Fv this ?_
   rw [if_pos e]
theorem Bm4 (s t : List UInt8) : Pure PP G h0 109 [S s, S t] (if s.take t.length = t then .tuple [S (s.drop t.length), .bool true] else .tuple [S s, .bool false]) := by
 refine Ba8 (n := 1) Bn (Blm ?_)
 unfold Afj
 by_cases e : s.take t.length = t
 · have h1 := Bgx s t
   rw [if_pos e] at h1 ⊢
   refine Dq h1 ?_
   rw [Eo, Ch, Ew, Ce]
 · have h1 := Bgx s t
   rw [if_neg e] at h1 ⊢
   refine Dq h1 ?_
   rw [Eo, Ch, Ew, Ce]
theorem A15 {s : List UInt8} {h : H} {b : P} (ha : h.at b = .row T5b 5 0 9 true) {k : KV} : ∀ (n i : Nat), 5 - i < n → i ≤ 5 → k (.tuple [S (Dg (Ot.drop i) s).1, .bool (Dg (Ot.drop i) s).2]) h → (r60 W1 k n).a1 s.length (enc s) (.slice b 0 5 1 true) (Int.ofNat 5) (Int.ofNat i) h
 | 0, _, hn, _, _ => absurd hn (Nat.not_lt_zero _)
 | n + 1, i, hn, hi, hk => by
  refine Bd1 ?_
  unfold Ane
  rw [Fm]
  refine Aw (fun e => ?_) (fun e => ?_)
  · have e : i < 5 := Int.ofNat_lt.1 (of_decide_eq_true e)
    rw [Ar]
    refine A34 ha e fun t rest h1 h2 => ?_
    rw [h1] at hk
    have rec_ : (decide (s.take t.length = t) && Nl (s.drop t.length)) = false → fI (wrap .i64 (Br (Int.ofNat i) (Int.ofNat 1))) fun n27 => (r60 W1 k n).a1 s.length (enc s) (.slice b 0 5 1 true) (Int.ofNat 5) n27 h := by
     intro hc
     rw [Aaq (by omega), As]
     refine A15 ha n (i + 1) (by omega) e ?_
     rw [← h2]
     have : Dg (t :: rest) s = Dg rest s := if_neg (by rw [hc]; simp)
     rw [this] at hk; exact hk
    refine Dq (Bm4 s t) ?_ rfl (by split <;> rfl)
    by_cases ht : s.take t.length = t
    · rw [if_pos ht, Eo, Ch, Ew, Ce]
      refine So ?_
      rw [Gk, Bw]
      cases hr : s.drop t.length with
      | nil =>
       refine Gu (fun e => ?_) (fun _ => ?_)
       · simp at e
       · exact Bp rfl (rec_ (by rw [hr]; simp [Nl]))
      | cons c r =>
       refine Gu (fun _ => ?_) (fun e => ?_)
       · refine Ck (s := c :: r) (Nat.zero_lt_succ _) ?_
         refine Ma (b := decide (c = 39)) (fun k' hk' => ?_) ?_
         · refine Ck (s := c :: r) (Nat.zero_lt_succ _) ?_
           rw [toNat_eq _ 39 (by decide)]; exact hk'
         · rw [toNat_eq _ 34 (by decide)]
           refine Aw (fun e => ?_) (fun e => ?_)
           · have : Dg (t :: rest) s = (t, true) := if_pos (by rw [hr]; rw [decide_eq_true ht]; exact e)
             rw [this] at hk; exact hk
           · refine rec_ ?_
             rw [hr, decide_eq_true ht]; exact e
       · simp at e
    · rw [if_neg ht, Eo, Ch, Ew, Ce]
      refine Gu (fun e => by cases e) (fun _ => ?_)
      refine Gu (fun e => by cases e) (fun _ => ?_)
      exact Bp rfl (rec_ (by rw [decide_eq_false ht]; rfl))
  · have e : i = 5 := by
     have : ¬ i < 5 := fun h => (of_decide_eq_false e) (Int.ofNat_lt.2 h)
     omega
    subst e
    exact hk
theorem c60 (s : List UInt8) : Pure PP G h0 60 [S s] (.tuple [S (Be s).1, .bool (Be s).2]) := by
 refine w60 (n := 10) Bn (g60 ?_)
 unfold Anf
 rw [b5b, Ae]
 show (r60 W1 _ 9).a1 s.length (enc s) (.slice h0.next 0 5 1 true) (Int.ofNat 5) (Int.ofNat 0) _
 exact A15 (Ax _ _) 9 0 (by decide) (by decide) rfl
def Fh (q : UInt8) : Nat → List UInt8 → Option (List UInt8)
 | 0, _ => none
 | _ + 1, [] => some []
 | n + 1, c :: r => if c = q then none else if c = 92 then (if (Et r).2 = 0 then none else (Fh q n (r.drop (Et r).2)).map ((Et r).1 :: ·)) else (Fh q n r).map (c :: ·)
theorem Lg {q : UInt8} : ∀ (n m : Nat) (s : List UInt8), s.length < n → s.length < m → Fh q n s = Fh q m s
 | 0, _, _, h, _ => absurd h (Nat.not_lt_zero _)
 | _, 0, _, _, h => absurd h (Nat.not_lt_zero _)
 | n + 1, m + 1, [], _, _ => rfl
 | n + 1, m + 1, c :: r, h1, h2 => by
  have h1 : r.length < n := Nat.lt_of_succ_lt_succ h1
  have h2 : r.length < m := Nat.lt_of_succ_lt_succ h2
  show (if c = q then none else if c = 92 then (if (Et r).2 = 0 then none else (Fh q n (r.drop (Et r).2)).map ((Et r).1 :: ·)) else (Fh q n r).map (c :: ·)) = (if c = q then none else if c = 92 then (if (Et r).2 = 0 then none else (Fh q m (r.drop (Et r).2)).map ((Et r).1 :: ·)) else (Fh q m r).map (c :: ·))
  rw [Lg n m r h1 h2, Lg n m (r.drop (Et r).2) (by rw [List.length_drop]; omega) (by rw [List.length_drop]; omega)]
def Aqy (o : Option (List UInt8)) : AV := match o with
 | some l => .tuple [S l, .bool true]
 | none => .tuple [S [], .bool false]
def Xz (t : List UInt8) : Option (List UInt8) := match t with
 | [] => none
 | q :: r => if r = [] then none else if r.getLast? = some q then Fh q (r.length + 1) r.dropLast else none
def Ki (s : List UInt8) : Option (List UInt8) := if (Be s).2 = true then Xz (s.drop (Be s).1.length) else none
theorem Qf (s : List UInt8) : ∀ ps, (Dg ps s).2 = true → s.take (Dg ps s).1.length = (Dg ps s).1 ∧ Nl (s.drop (Dg ps s).1.length) = true
 | [], h => by cases h
 | p :: ps, h => by
  by_cases e : (decide (s.take p.length = p) && Nl (s.drop p.length)) = true
  · have e1 : Dg (p :: ps) s = (p, true) := if_pos e
    rw [e1]
    simpa using e
  · have e1 : Dg (p :: ps) s = Dg ps s := if_neg e
    rw [e1] at h ⊢
    exact Qf s ps h
theorem Xg (s : List UInt8) : ∀ ps, (Dg ps s).2 = false → (Dg ps s).1 = []
 | [], _ => rfl
 | p :: ps, h => by
  by_cases e : (decide (s.take p.length = p) && Nl (s.drop p.length)) = true
  · have e1 : Dg (p :: ps) s = (p, true) := if_pos e
    rw [e1] at h; cases h
  · have e1 : Dg (p :: ps) s = Dg ps s := if_neg e
    rw [e1] at h ⊢
    exact Xg s ps h
theorem Xf (s : List UInt8) : (Be s).1.length ≤ s.length := by
 cases h : (Be s).2 with
 | true =>
  have := congrArg List.length (Qf s Ot h).1
  rw [List.length_take] at this
  show (Dg Ot s).1.length ≤ s.length
  omega
 | false =>
  have : (Be s).1 = [] := Xg s Ot h
  rw [this]; exact Nat.zero_le _
theorem A1p {n : Nat} (h1 : 1 ≤ n) (h2 : n ≤ 9223372036854775807) : wrap .i64 (Jp (Int.ofNat n) (Int.ofNat 1)) = Int.ofNat (n - 1) := by
 rw [Uq, show Int.ofNat n - Int.ofNat 1 = Int.ofNat (n - 1) by show (n : Int) - ((1 : Nat) : Int) = ((n - 1 : Nat) : Int); omega]
 exact Co (by omega)
theorem Ao9 {q : UInt8} {r : List UInt8} {b : P} {k : KV} : ∀ (n : Nat) (s acc : List UInt8) (h : H), s.length < n → s.length + acc.length ≤ 549755813888 → Bld false h b acc →
    (∀ h', k (Aqy ((Fh q n s).map (acc ++ ·))) h') → (r59 W1 k n).a1 (q :: r).length (enc (q :: r)) (.ptr b 0) s.length (enc s) h
  | 0, _, _, _, hn, _, _, _ => absurd hn (Nat.not_lt_zero _)
  | n + 1, [], acc, h, hn, hl, hb, hk => by
    refine A1n ?_
    unfold Ahu
    refine Cg rfl ?_
    refine c63 hb (.inl rfl) (by simp at hl; omega) fun h' => ?_
    rw [Ch]
    have := hk h'
    rw [show (Fh q (n + 1) []).map (acc ++ ·) = some acc by show some (acc ++ []) = _; rw [List.append_nil]] at this
    exact this
  | n + 1, c :: s, acc, h, hn, hl, hb, hk => by
    have hn : s.length < n := Nat.lt_of_succ_lt_succ hn
    have hl' : s.length + 1 + acc.length ≤ 549755813888 := hl
    refine A1n ?_
    unfold Ahu
    refine Bp (Ky c s) ?_
    refine Ck (s := c :: s) (Nat.zero_lt_succ _) ?_
    refine Ck (s := q :: r) (Nat.zero_lt_succ _) ?_
    rw [List.getElem_cons_zero, List.getElem_cons_zero, Pd]
    have eb : Fh q (n + 1) (c :: s) = if c = q then none else if c = 92 then (if (Et s).2 = 0 then none else (Fh q n (s.drop (Et s).2)).map ((Et s).1 :: ·)) else (Fh q n s).map (c :: ·) := rfl
    rw [eb] at hk
    have mm : ∀ (x : UInt8) (o : Option (List UInt8)), (o.map (x :: ·)).map (acc ++ ·) = o.map ((acc ++ [x]) ++ ·) := by
      intro x o
      cases o with
      | none => rfl
      | some l => simp
    refine Aw (fun e => ?_) (fun e => ?_)
    · have e : c = q := of_decide_eq_true e
      rw [if_pos e] at hk
      obtain ⟨n', rfl⟩ : ∃ n', n = n' + 1 := ⟨n - 1, by omega⟩
      refine A1m ?_
      unfold Aht
      exact hk h
    · have e : ¬ c = q := of_decide_eq_false e
      rw [if_neg e] at hk
      refine Ck (s := c :: s) (Nat.zero_lt_succ _) ?_
      rw [List.getElem_cons_zero, toNat_eq _ 92 (by decide), Bw]
      refine Aw (fun e2 => ?_) (fun e2 => ?_)
      · have e2 : ¬ c = 92 := by simpa using e2
        rw [if_neg e2] at hk
        refine Ck (s := c :: s) (Nat.zero_lt_succ _) ?_
        refine Awi (x := c) hb (by omega) fun h' hb' => ?_
        refine Fv (s := c :: s) (Nat.le_add_left 1 _) ?_
        refine Ao9 n s (acc ++ [c]) h' hn (by rw [List.length_append, List.length_singleton]; omega) hb' ?_
        intro h2
        have := hk h2
        rw [mm] at this; exact this
      · have e2 : c = 92 := by simpa using e2
        rw [if_pos e2] at hk
        refine Fv (s := c :: s) (Nat.le_add_left 1 _) ?_
        refine Dq (Bg0 s (by omega)) ?_
        have hle := Ao2 s
        rw [Eo]
        show asI .u8 (.int .u8 (Int.ofNat (Et s).1.toNat)) _
        rw [Au, Ew, Au, ilt]
        refine Aw (fun e3 => ?_) (fun e3 => ?_)
        · have e3 : 0 < (Et s).2 := of_decide_eq_true e3
          rw [if_neg (by omega)] at hk
          refine Awi hb (by omega) fun h' hb' => ?_
          have w1 : wrap .i64 (Br (Int.ofNat 1) (Int.ofNat (Et s).2)) = Int.ofNat (1 + (Et s).2) := by
            rw [Hf, show Int.ofNat 1 + Int.ofNat (Et s).2 = Int.ofNat (1 + (Et s).2) from rfl]; exact Co (by omega)
          rw [w1, As, Ar]
          refine Fv (s := c :: s) (by simp; omega) ?_
          have hd : (c :: s).drop (1 + (Et s).2) = s.drop (Et s).2 := by rw [Nat.add_comm, List.drop_succ_cons]
          rw [hd]
          refine Ao9 n (s.drop (Et s).2) (acc ++ [(Et s).1]) h' (by rw [List.length_drop]; omega) (by rw [List.length_append, List.length_singleton, List.length_drop]; omega) hb' ?_
          intro h2
          have := hk h2
          rw [mm] at this; exact this
        · have e3 : ¬ 0 < (Et s).2 := of_decide_eq_false e3
          rw [if_pos (by omega)] at hk
          exact hk h
theorem Ai4 {q : UInt8} {r : List UInt8} (hr : r ≠ []) (h : (q :: r).length - 1 < (q :: r).length) : r.getLast? = some ((q :: r)[(q :: r).length - 1]) := by
 cases r with
 | nil => exact absurd rfl hr
 | cons c r =>
  rw [List.getLast?_eq_getElem?]
  simp
theorem c59 (s : List UInt8) (hl : s.length ≤ 549755813888) : Pure PP G h0 59 [S s] (Aqy (Ki s)) := by
 refine w59 (n := s.length + 10) Bn (g59 ?_)
 unfold Anh
 refine El ?_
 refine Dq (c60 s) ?_
 rw [Eo, Ch, Ew, Ce]
 refine Fv (Xf s) ?_
 have hlt : (s.drop (Be s).1.length).length ≤ s.length := by rw [List.length_drop]; omega
 have bad : ∀ h, Ki s = none → (r59 W1 (fun v _ => v = Aqy (Ki s)) (s.length + 9)).a2 h := by
  intro h e
  refine A1m ?_
  unfold Aht
  show AV.tuple _ = _
  rw [e]; rfl
 refine Kg ?_
 rw [Bw, ilt]
 refine Wd (fun e => ?_) (fun e => ?_)
 · rw [Bool.or_eq_false_iff] at e
   obtain ⟨e1, e2⟩ := e
   have e1 : (Be s).2 = true := by simpa using e1
   have e2 : ¬ (s.drop (Be s).1.length).length < 2 := of_decide_eq_false e2
   have eb : Ki s = Xz (s.drop (Be s).1.length) := if_pos e1
   revert hlt e2 eb
   generalize s.drop (Be s).1.length = t
   intro hlt e2 eb
   match t, hlt, e2, eb with
   | [], _, e2, _ => exact absurd (by decide) e2
   | [_], _, e2, _ => exact absurd (show 1 < 2 by decide) e2
   | q :: c :: r, hlt, _, eb =>
    have hne : (c :: r) ≠ [] := by simp
    have h1 : 1 ≤ (q :: c :: r).length := Nat.le_add_left 1 _
    have h2 : (q :: c :: r).length - 1 < (q :: c :: r).length := by omega
    rw [A1p h1 (by omega), As, Ar]
    refine Ck h2 ?_
    refine Ck (s := q :: c :: r) (Nat.zero_lt_succ _) ?_
    rw [List.getElem_cons_zero, Pd, Bw]
    have hlast := Ai4 hne h2
    have eb : Ki s = if (c :: r) = [] then none else if (c :: r).getLast? = some q then Fh q ((c :: r).length + 1) (c :: r).dropLast else none := eb
    rw [if_neg hne, hlast] at eb
    refine Aw (fun e => ?_) (fun e => ?_)
    · have e : ¬ (q :: c :: r)[(q :: c :: r).length - 1] = q := by simpa using e
      rw [if_neg (fun h => e (Option.some.inj h))] at eb
      exact bad _ eb
    · have e : (q :: c :: r)[(q :: c :: r).length - 1] = q := by simpa using e
      rw [if_pos (congrArg some e)] at eb
      rw [As, Ar]
      refine Wq (lo := 1) (hi := (q :: c :: r).length - 1) (by simp) (by omega) ?_
      have hcut : ((q :: c :: r).drop 1).take ((q :: c :: r).length - 1 - 1) = (c :: r).dropLast := by
       rw [List.drop_succ_cons, List.drop_zero, List.dropLast_eq_take]; rfl
      rw [hcut]
      have hbl : (c :: r).dropLast.length ≤ s.length := by
       rw [List.length_dropLast]
       have : (q :: c :: r).length = (c :: r).length + 1 := rfl
       omega
      have hbn : (c :: r).dropLast.length < (c :: r).length + 1 := by rw [List.length_dropLast]; omega
      revert eb hbl hbn
      generalize (c :: r).length + 1 = N
      generalize (c :: r).dropLast = bd
      intro eb hbl hbn
      have hB := Bld.new h0
      cases bd with
      | nil =>
       refine Cg rfl ?_
       refine c63 hB (.inl rfl) (Nat.zero_le _) fun h' => ?_
       rw [Ch]
       show AV.tuple _ = _
       rw [eb, Lg N 1 [] hbn (by decide)]; rfl
      | cons d u =>
       obtain ⟨N, rfl⟩ : ∃ N', N = N' + 1 := ⟨N - 1, by omega⟩
       have hlen : (d :: u).length = u.length + 1 := rfl
       refine Bp (Ky d u) ?_
       refine Ck (s := d :: u) (Nat.zero_lt_succ _) ?_
       refine Ck (s := q :: c :: r) (Nat.zero_lt_succ _) ?_
       rw [List.getElem_cons_zero, List.getElem_cons_zero, Pd]
       have eb : Ki s = if d = q then none else if d = 92 then (if (Et u).2 = 0 then none else (Fh q N (u.drop (Et u).2)).map ((Et u).1 :: ·)) else (Fh q N u).map (d :: ·) := eb
       refine Aw (fun e => ?_) (fun e => ?_)
       · have e : d = q := of_decide_eq_true e
         rw [if_pos e] at eb
         exact bad _ eb
       · have e : ¬ d = q := of_decide_eq_false e
         rw [if_neg e] at eb
         refine Ck (s := d :: u) (Nat.zero_lt_succ _) ?_
         rw [List.getElem_cons_zero, toNat_eq _ 92 (by decide), Bw]
         refine Aw (fun e2 => ?_) (fun e2 => ?_)
         · have e2 : ¬ d = 92 := by simpa using e2
           rw [if_neg e2] at eb
           refine Ck (s := d :: u) (Nat.zero_lt_succ _) ?_
           refine Awi (x := d) hB (by decide) fun h' hb' => ?_
           refine Fv (s := d :: u) (Nat.le_add_left 1 _) ?_
           refine Ao9 (s.length + 9) u ([] ++ [d]) h' (by omega) (by simp; omega) hb' ?_
           intro h2
           rw [eb, Lg N (s.length + 9) u (by omega) (by omega)]; rfl
         · have e2 : d = 92 := by simpa using e2
           rw [if_pos e2] at eb
           refine Fv (s := d :: u) (Nat.le_add_left 1 _) ?_
           refine Dq (Bg0 u (by omega)) ?_
           have hle := Ao2 u
           rw [Eo]
           show asI .u8 (.int .u8 (Int.ofNat (Et u).1.toNat)) _
           rw [Au, Ew, Au]
           refine Bd2 ?_
           unfold Ang
           rw [ilt]
           refine Aw (fun e3 => ?_) (fun e3 => ?_)
           · have e3 : 0 < (Et u).2 := of_decide_eq_true e3
             rw [if_neg (by omega)] at eb
             refine Awi hB (by decide) fun h' hb' => ?_
             have w1 : wrap .i64 (Br (Int.ofNat 1) (Int.ofNat (Et u).2)) = Int.ofNat (1 + (Et u).2) := by
              rw [Hf, show Int.ofNat 1 + Int.ofNat (Et u).2 = Int.ofNat (1 + (Et u).2) from rfl]; exact Co (by omega)
             rw [w1, As, Ar]
             refine Fv (s := d :: u) (by simp; omega) ?_
             have hd : (d :: u).drop (1 + (Et u).2) = u.drop (Et u).2 := by rw [Nat.add_comm, List.drop_succ_cons]
             rw [hd]
             refine Ao9 (s.length + 8) (u.drop (Et u).2) ([] ++ [(Et u).1]) h' (by rw [List.length_drop]; omega) (by rw [List.length_drop]; simp; omega) hb' ?_
             intro h2
             rw [eb, Lg N (s.length + 8) (u.drop (Et u).2) (by rw [List.length_drop]; omega) (by rw [List.length_drop]; omega)]; rfl
           · have e3 : ¬ 0 < (Et u).2 := of_decide_eq_false e3
             rw [if_pos (by omega)] at eb
             show AV.tuple _ = _
             rw [eb]; rfl
 · refine Cg rfl ?_
   refine bad _ ?_
   rw [Bool.or_eq_true] at e
   rcases e with e | e
   · have e : ¬ (Be s).2 = true := by simpa using e
     exact if_neg e
   · have e : (s.drop (Be s).1.length).length < 2 := of_decide_eq_true e
     unfold Ki
     by_cases h : (Be s).2 = true
     · rw [if_pos h]
       revert e
       generalize s.drop (Be s).1.length = t
       intro e
       match t, e with
       | [], _ => rfl
       | [_], _ => rfl
       | _ :: _ :: _, e => exact absurd e (by simp)
     · exact if_neg h
end Go.Den
