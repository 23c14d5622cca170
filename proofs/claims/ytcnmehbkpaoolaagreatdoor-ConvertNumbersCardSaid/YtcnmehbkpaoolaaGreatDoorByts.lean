/-
 Proof.
-/
import Derived.Test.YtcnmehbkpaoolaaGreatDoorLex7
import Derived.Lib.MakeNoZero
noncomputable section
namespace Go.Den
open Go.RowKit
set_option maxRecDepth 100000
theorem Bmq {n : Nat} (hn : n ≤ 1099511627776) {h : H} {k : KV} (hk : k (.slice h.next 0 n 1 false) (h.new (.row .e 0 0 TB false))) : W1 (.func 290) [.int .i64 (Int.ofNat n)] h k := by
 intro μ w fn' vargs s gl hfn hv
 have hfn' : fn' = .func 290 := by cases fn' <;> simp only [FnR] at hfn <;> first | (cases hfn; rfl) | cases hfn
 obtain ⟨v, vs, e, h1, h2⟩ := hv
 have h2 : vs = [] := h2
 have h1 : v = .int .i64 (Int.ofNat n) := h1
 subst h2 h1
 have hva : vargs = #[.int .i64 (Int.ofNat n)] := by apply Array.ext'; simpa using e
 subst hva
 obtain ⟨cs, hr, hle, _⟩ := Lib.run_makeNoZero (P := PP) w #[3] 115 TB Proofs.Tryz.underlying115 n (by omega)
 have hrun : (callFunc 290 #[.int .i64 (Int.ofNat n)]).run PP w = .ok (.value (.slice (some ⟨w.heap.size, 0, none⟩) n cs.size)) (w.drew.drew.alloc (.cells cs TB)) := by
  rw [run_callFunc_extern (e := Extern.BytealgMakeNoZero.makeNoZero #[3] #[115]) Proofs.Tryz.func290 (by kernel_rfl) (by kernel_rfl) (by kernel_rfl) (by kernel_rfl)]
  rw [show (Extern.BytealgMakeNoZero.makeNoZero #[3] #[115] #[.int .i64 (Int.ofNat n)]).run PP w = _ from hr]
  rfl
 obtain ⟨s1, x1⟩ := Sim.alloc (s.heap (w' := w.drew.drew) rfl) (.row .e 0 0 TB false) (.cells cs TB) cs.size 0 (fun μ' _ => by
  refine ⟨_, _, Fc w.drew.drew _, ⟨rfl, by show 0 + 0 ≤ cs.size; omega, fun j hj => absurd hj (Nat.not_lt_zero _)⟩, (fun e => nomatch e), fun _ i _ hi => ?_⟩
  intro hh
  omega)
 refine .inl ⟨290, hfn', .inl ⟨_, _, _, _, _, hrun, s1, (Cu.heap μ h (w := w) (w' := w.drew.drew) rfl rfl rfl rfl).trans x1, ?_, hk⟩⟩
 refine ⟨_, _, rfl, hle, ⟨(fun e => nomatch e), _, Mu.Ce _ _ _⟩, .inr ⟨_, Mu.Ce _ _ _, rfl, ?_⟩⟩
 show 0 + 0 + cs.size * 1 ≤ cs.size
 omega
theorem A1t (x : AV) (h : H) : An env .cap [115] [x] h = Al0 x h := by kernel_rfl
theorem Bgf (x y : AV) (h : H) : An env .copy [115, 115] [x, y] h = Th x y h TB ei8 := by kernel_rfl
theorem Bjq (b : P) (n : Nat) (h : H) : slice3 env h 115 (.slice b 0 n 1 false) none (some (Bd (.int .i64 (Int.ofNat 0)))) none = Fe h (Tk b 0 n 1 false 0 0 none) := by kernel_rfl
theorem Bms {h : H} {b : P} {t : Tm} {n : Nat} {k : KV} (ha : h.at b = .row t 2 0 149 true) (hb : b.nat < h.next.nat) (h0 : Ba t 0 = .ptr b 0) (h1 : Ba t 1 = .Ad) (hn : n ≤ 1099511627776) (hk : ∀ h', Bld true h' b [] → k (.tuple []) h') : W1 (.func 258) [.ptr b 0, .int .i64 (Int.ofNat n)] h k := by
 refine A9v (n := 1) Bm (Bku ?_)
 unfold Adu
 rw [Bk, Ae, Er]
 refine Da ha (by decide) ?_
 rw [h1, A1t, show (Al0 AV.Ad h : Option (AV × H)) = some (.int .i64 (Int.ofNat 0), h) from rfl, Ae, Au, Ar, Ar]
 have e1 : wrap .i64 (Bo (wrap .i64 (Int.ofNat 2 * Int.ofNat 0)) (Int.ofNat n)) = Int.ofNat n := by
  rw [show wrap .i64 (Int.ofNat 2 * Int.ofNat 0) = Int.ofNat 0 by kernel_rfl, Hf, show Int.ofNat 0 + Int.ofNat n = Int.ofNat n by show (0 : Int) + (n : Int) = (n : Int); omega]
  exact Cm (by omega)
 rw [e1, Bk, Ae, Er]
 refine Da ha (by decide) ?_
 rw [h1]
 refine Bmq hn ?_
 have ha1 : (h.new (.row .e 0 0 TB false)).at b = .row t 2 0 149 true := by rw [Dl hb]; exact ha
 refine Da ha1 (by decide) ?_
 rw [h1, Au7, Bjq]
 have e2 : (Fe (h.new (.row .e 0 0 TB false)) (Tk h.next 0 n 1 false 0 0 none) : Option (AV × H)) = some (.slice h.next 0 0 1 false, h.new (.row .e 0 0 TB false)) := by
  cases n <;> rfl
 rw [e2, Ae, Bk, Ae, Er]
 refine Da ha1 (by decide) ?_
 rw [h1, Bgf]
 have e3 : ∃ h3, (Th (.slice h.next 0 0 1 false) .Ad (h.new (.row .e 0 0 TB false)) TB ei8 : Option (AV × H)) = some (.int .i64 (Int.ofNat 0), h3) ∧ h3 = (h.new (.row .e 0 0 TB false)).put h.next (.row .e 0 0 TB false) := by
  refine ⟨_, ?_, rfl⟩
  show (Ux 0 ((h.new (.row .e 0 0 TB false)).write h.next 0 []) : Option (AV × H)) = _
  have : (h.new (.row .e 0 0 TB false)).write h.next 0 [] = some ((h.new (.row .e 0 0 TB false)).put h.next (.row .e 0 0 TB false)) := by
   unfold Hp.write Hp.Gr
   rw [Aw]
   show (h.new (.row .e 0 0 TB false)).Pw h.next (.row .e 0 0 TB false) some = _
   rw [Lo]
  rw [this]; rfl
 obtain ⟨h3, e3, e4⟩ := e3
 rw [e3, Ae, Au, Bk, Ae, Er]
 have hbn : b ≠ h.next := fun e => by subst e; exact absurd hb (Nat.lt_irrefl _)
 have a3 : h3.at b = .row t 2 0 149 true := by rw [e4, Bx hbn]; exact ha1
 have n3 : h3.next.nat = h.next.nat + 1 := by rw [e4]; exact Bc (o := .row .e 0 0 TB false)
 refine Bld.fin (g := true) (l := []) a3 (by omega) h0 (.inr ⟨h.next, .e, 0, 0, false, rfl, by omega, by rw [e4, Bn], Nat.le_refl _, Nat.le_refl _, fun i hi => absurd hi (Nat.not_lt_zero _), .inl rfl⟩) fun h' hb' => hk h' hb'
theorem Bmw {h : H} {n : Nat} {k : KV} (hn1 : 1 ≤ n) (hn : n ≤ 1099511627776) (hk : ∀ h', Bld true h' h.next [] → k (.tuple []) h') : W1 (.func 208) [.ptr h.next 0, .int .i64 (Int.ofNat n)] (h.new Wz) k := by
 refine A90 (n := 2) Bm (Bkz ?_)
 unfold Ad0
 refine A0k (t := Ah [.Ft, .Ad] 0 .e) (Aw _ _) (.inl (by kernel_rfl)) fun h1 t1 a1 p1 q1 n1 f1 => ?_
 have q1 : Ba t1 1 = .Ad := q1
 refine Bi (by rw [Fm]; exact decide_eq_false (by show ¬ ((n : Int) < ((0 : Nat) : Int)); omega)) ?_
 refine A4t ?_
 unfold Adz
 rw [Bk, Ae, Er]
 refine Da a1 (by decide) ?_
 rw [q1, A1t, show (Al0 AV.Ad h1 : Option (AV × H)) = some (.int .i64 (Int.ofNat 0), h1) from rfl, Ae, Au, Bk, Ae, Er]
 refine Da a1 (by decide) ?_
 rw [q1, Acq, show wrap .i64 (Jr (Int.ofNat 0) (Int.ofNat 0)) = Int.ofNat 0 by kernel_rfl, Ar]
 refine Cd (by rw [Fm]; exact decide_eq_true (by show ((0 : Nat) : Int) < (n : Int); omega)) ?_
 exact Bms a1 (by rw [n1, Bc]; omega) p1 q1 hn fun h' hb' => hk h' hb'
def isU (x : UInt8) : Bool := decide (65 ≤ x.toNat) && decide (x.toNat ≤ 90)
def Ap2 (x : UInt8) : UInt8 := if isU x then x + 32 else x
def Lj (s : List UInt8) : List UInt8 := s.map Ap2
theorem Ail {s : List UInt8} (h : s.any isU = false) : Lj s = s := by
 unfold Lj
 rw [List.any_eq_false] at h
 conv => rhs; rw [← List.map_id s]
 apply List.map_congr_left
 intro x hx
 have := h x hx
 unfold Ap2
 rw [if_neg this]; rfl
theorem Aam {i : Nat} (h : i < 9223372036854775807) : wrap .i64 (Bo (Int.ofNat i) (Int.ofNat 1)) = Int.ofNat (i + 1) := by
 rw [Hf, show Int.ofNat i + Int.ofNat 1 = Int.ofNat (i + 1) from rfl]
 exact Cm (by omega)
theorem upK {x : UInt8} {h : H} {k : Bool → H → Prop} (hk : k (isU x) h) : Ap (fun k6 => gate true (Fj (Int.ofNat 65) (Int.ofNat x.toNat)) (k6 (Fj (Int.ofNat x.toNat) (Int.ofNat 90)) h) (k6 false h)) k := by
 refine Sp ?_
 have : (Fj (Int.ofNat 65) (Int.ofNat x.toNat) && Fj (Int.ofNat x.toNat) (Int.ofNat 90)) = isU x := by
  rw [Jl, Jl]; unfold isU
  congr 1 <;> (rw [Bool.eq_iff_iff, decide_eq_true_eq, decide_eq_true_eq]; exact Int.ofNat_le)
 rw [this]; exact hk
def ascii (s : List UInt8) : Prop := ∀ x ∈ s, x.toNat < 128
theorem Av9 {s : List UInt8} {k : KV} {e : Nat} (hs : ascii s) (hl : s.length ≤ 1099511627776) : ∀ (n i : Nat) (u : Bool), s.length - i + e + 1 ≤ n → i ≤ s.length → (∀ n', e ≤ n' → (No W1 k n').a5 s.length (enc s) true (u || (s.drop i).any isU) h0) → (No W1 k n).a1 s.length (enc s) true u (Int.ofNat i) h0
 | 0, _, _, hn, _, _ => absurd hn (by omega)
 | n + 1, i, u, hn, hi, hk => by
  refine A44 ?_
  unfold Ael
  rw [Fm]
  refine Bb (fun e' => ?_) (fun e' => ?_)
  · have e' : i < s.length := Int.ofNat_lt.1 (of_decide_eq_true e')
    rw [As]
    refine Cr e' ?_
    have hx : (s[i]).toNat < 128 := hs _ (List.getElem_mem e')
    refine Bi (by rw [Jl]; exact decide_eq_false fun h => by have := Int.ofNat_le.1 h; omega) ?_
    have hd : s.drop i = s[i] :: s.drop (i + 1) := List.drop_eq_getElem_cons e'
    refine Ry (b := isU s[i]) (fun k' hk' => upK hk') ?_
    rw [Aam (by omega), Ar]
    refine Av9 (e := e) hs hl n (i + 1) _ (by omega) e' ?_
    intro n' hn'
    have := hk n' hn'
    rw [hd, List.any_cons, ← Bool.or_assoc] at this
    exact this
  · have e' : ¬ i < s.length := fun h => (of_decide_eq_false e') (Int.ofNat_lt.2 h)
    have hd : s.drop i = [] := by rw [List.drop_eq_nil_iff]; omega
    have := hk n (by omega)
    rw [hd] at this
    simpa using this
theorem A2o {x : UInt8} (h : isU x = true) : wrap .u8 (Bo (Int.ofNat x.toNat) (Int.ofNat 32)) = Int.ofNat (Ap2 x).toNat := by
 unfold Ap2
 rw [if_pos h]
 have hx : x.toNat ≤ 90 := by unfold isU at h; simp at h; exact h.2
 have : (x + 32).toNat = x.toNat + 32 := by
  rw [UInt8.toNat_add]; show (x.toNat + 32) % 256 = _; omega
 rw [this, Hf, Ga]
 show IntKind.wrap .u8 ((x.toNat + 32 : Nat) : Int) = ((x.toNat + 32 : Nat) : Int)
 simp [IntKind.wrap, IntKind.bits, IntKind.signed]
 omega
theorem Aik {s : List UInt8} {p i : Nat} (hp : p ≤ i) (h : ((s.drop p).take (i - p)).any isU = false) : Lj (s.take i) = Lj (s.take p) ++ (s.drop p).take (i - p) := by
 have e : s.take i = s.take p ++ (s.drop p).take (i - p) := by
  have := List.take_add (l := s) (i := p) (j := i - p)
  rw [show p + (i - p) = i by omega] at this; exact this
 rw [e]
 unfold Lj
 rw [List.map_append]
 congr 1
 exact Ail h
theorem Al3 {s : List UInt8} {k : KV} {b : P} (hl : s.length ≤ 1099511627776) (hne : s ≠ []) (hk : ∀ h, k (S (Lj s)) h) : ∀ (n i p : Nat) (g : Bool) (h : H), 3 * (s.length - i) + 1 ≤ n → i ≤ s.length → p ≤ i → ((s.drop p).take (i - p)).any isU = false → Bld g h b (Lj (s.take p)) → (No W1 k n).a2 s.length (enc s) (.ptr b 0) (Int.ofNat p) (Int.ofNat i) h
 | 0, _, _, _, _, hn, _, _, _, _ => absurd hn (by omega)
 | n + 1, i, p, g, h, hn, hi, hp, ha, hb => by
  refine A43 ?_
  unfold Aek
  rw [Fm]
  refine Bb (fun e' => ?_) (fun e' => ?_)
  · have e' : i < s.length := Int.ofNat_lt.1 (of_decide_eq_true e')
    have htk : s.take (i + 1) = s.take i ++ [s[i]] := by rw [List.take_add_one, List.getElem?_eq_getElem e']; rfl
    rw [As]
    refine Cr e' ?_
    refine upK ?_
    refine Bb (fun eu => ?_) (fun eu => ?_)
    · rw [A2o eu, Ar]
      have step : ∀ g' h', Bld g' h' b (Lj (s.take i)) → (No W1 k n).a3 s.length (enc s) (.ptr b 0) (Int.ofNat i) (Int.ofNat (Ap2 s[i]).toNat) h' := by
       intro g' h' hb'
       obtain ⟨m, rfl⟩ : ∃ m, n = m + 2 := ⟨n - 2, by omega⟩
       refine A42 ?_
       unfold Aej
       refine Awd hb' (by unfold Lj; rw [List.length_map, List.length_take]; omega) fun h2 hb2 => ?_
       rw [Aam (by omega), Ar]
       refine At6 ?_
       unfold Zd
       rw [Aam (by omega), Ar]
       refine Al3 hl hne hk m (i + 1) (i + 1) false h2 (by omega) e' (Nat.le_refl _) (by simp) ?_
       rw [htk]; unfold Lj at hb2 ⊢; rw [List.map_append]; exact hb2
      rw [Fm]
      refine Bb (fun e2 => ?_) (fun e2 => ?_)
      · have e2 : p < i := Int.ofNat_lt.1 (of_decide_eq_true e2)
        rw [As, As]
        refine Wq hp (by omega) ?_
        refine c61 hb (fun h => ?_) ?_ fun v h' hb' => ?_
        · have := congrArg List.length h
          simp at this; omega
        · unfold Lj; rw [List.length_map, List.length_take, List.length_take, List.length_drop]; omega
        · refine step false h' ?_
          rw [Aik hp ha]; exact hb'
      · have e2 : p = i := by
         have : ¬ p < i := fun h => (of_decide_eq_false e2) (Int.ofNat_lt.2 h)
         omega
        subst e2
        exact step g h hb
    · obtain ⟨m, rfl⟩ : ∃ m, n = m + 1 := ⟨n - 1, by omega⟩
      refine At6 ?_
      unfold Zd
      rw [Aam (by omega), Ar]
      refine Al3 hl hne hk m (i + 1) p g h (by omega) e' (by omega) ?_ hb
      have e3 : (s.drop p).take (i + 1 - p) = (s.drop p).take (i - p) ++ [s[i]] := by
       rw [show i + 1 - p = (i - p) + 1 by omega, List.take_add_one, List.getElem?_drop, show p + (i - p) = i by omega, List.getElem?_eq_getElem e']; rfl
      rw [e3, List.any_append, ha]; simp [eu]
  · have e' : i = s.length := by
     have : ¬ i < s.length := fun h => (of_decide_eq_false e') (Int.ofNat_lt.2 h)
     omega
    subst e'
    have hlow : Lj s = Lj (s.take p) ++ (s.drop p).take (s.length - p) := by
     have := Aik hp ha
     rw [List.take_length] at this; exact this
    have hlne : Lj s ≠ [] := by unfold Lj; simpa using hne
    have hll : (Lj s).length ≤ 9223372036854775807 := by unfold Lj; rw [List.length_map]; omega
    rw [Fm]
    refine Bb (fun e2 => ?_) (fun e2 => ?_)
    · have e2 : p < s.length := Int.ofNat_lt.1 (of_decide_eq_true e2)
      rw [As]
      refine Wq hp (Nat.le_refl _) ?_
      refine c61 hb (fun h => ?_) ?_ fun v h' hb' => ?_
      · have := congrArg List.length h
        simp at this; omega
      · unfold Lj; rw [List.length_map, List.length_take, List.length_take, List.length_drop]; omega
      · rw [← hlow] at hb'
        refine c63 hb' (.inr hlne) hll fun h2 => ?_
        rw [Ck]; exact hk h2
    · have e2 : p = s.length := by
       have : ¬ p < s.length := fun h => (of_decide_eq_false e2) (Int.ofNat_lt.2 h)
       omega
      subst e2
      rw [List.take_length] at hb
      refine c63 hb (.inr hlne) hll fun h2 => ?_
      rw [Ck]; exact hk h2
theorem Bm6 (s : List UInt8) (hs : ascii s) (hl : s.length ≤ 1099511627776) : Pure PP G h0 161 [S s] (S (Lj s)) := by
 refine Bab (n := 4 * s.length + 10) Bm (Bla ?_)
 unfold Aem
 refine Av9 (e := 3 * s.length + 2) hs hl _ 0 false (by omega) (Nat.zero_le _) ?_
 intro n' hn'
 rw [List.drop_zero, Bool.false_or]
 obtain ⟨m, rfl⟩ : ∃ m, n' = m + 1 := ⟨n' - 1, by omega⟩
 refine A41 ?_
 unfold Aei
 refine Cd rfl ?_
 refine Bb (fun e => ?_) (fun e => ?_)
 · rw [Bl] at e
   have e : s.any isU = false := by simpa using e
   rw [Ail e]
 · rw [Bl] at e
   have e : s.any isU = true := by simpa using e
   have hne : s ≠ [] := fun h => by subst h; cases e
   have hpos : 1 ≤ s.length := by
    cases s with
    | nil => exact absurd rfl hne
    | cons _ _ => simp
   refine Ek ?_
   refine Bmw hpos hl fun h' hb' => ?_
   refine Al3 hl hne (fun _ => rfl) m 0 0 true h' (by omega) (Nat.zero_le _) (Nat.le_refl _) (by simp) ?_
   exact hb'
theorem Bm5 (L : List UInt8) (x : UInt8) (hx : x.toNat < 128) : Pure PP G h0 162 [S L, .int .i32 (Int.ofNat x.toNat)] (.int .i64 (Xo L x)) := by
 refine Baa (n := 1) Bm (Bk9 ?_)
 unfold Aeh
 refine Sp ?_
 have e1 : (Fj (Int.ofNat 0) (Int.ofNat x.toNat) && Db (Int.ofNat x.toNat) (Int.ofNat 128)) = true := by
  rw [ile, ilt, decide_eq_true (Nat.zero_le _), decide_eq_true hx]; rfl
 refine Cd e1 ?_
 have e2 : wrap .u8 (Int.ofNat x.toNat) = Int.ofNat x.toNat := by
  rw [Ga]
  simp [IntKind.wrap, IntKind.bits, IntKind.signed]
  omega
 rw [e2, Ar]
 refine Dq (A8x L x) ?_
 rw [Au]
def Ap1 : List UInt8 := [48, 49, 50, 51, 52, 53, 54, 55, 56, 57, 97, 98, 99, 100, 101, 102]
def Alo (c : UInt8) : Nat := if c.toNat ≤ 57 then c.toNat - 48 else c.toNat - 87
theorem Az3 : ∀ x ∈ Ap1, Xo Gk x = Int.ofNat (Alo x) := by
 intro x hx
 simp only [Ap1, List.mem_cons, List.not_mem_nil, or_false] at hx
 rcases hx with rfl | rfl | rfl | rfl | rfl | rfl | rfl | rfl | rfl | rfl | rfl | rfl | rfl | rfl | rfl | rfl <;> kernel_rfl
theorem A8i : ∀ x ∈ Ap1, Alo x ≤ 15 := by decide
theorem Azd : ∀ x ∈ Gk, Ap2 x ∈ Ap1 := by decide
theorem Atu : ∀ x ∈ Ap1, x.toNat < 128 := by decide
theorem Azo : ∀ x ∈ Gk, x.toNat < 128 := by decide
theorem Ay2 : ∀ x ∈ Zv, x ∈ Gk := by decide
def Ba3 (B v : Nat) (ds : List UInt8) : Nat := ds.foldl (fun v c => (v * B + Alo c) &&& 4095) v
def Qn : List UInt8 := [39, 34, 63, 92, 97, 98, 102, 110, 114, 116, 118]
def Alm : List UInt8 := [39, 34, 63, 92, 7, 8, 12, 10, 13, 9, 11]
def Tz (x : UInt8) : Option UInt8 :=
 if x = 39 then some 39 else if x = 34 then some 34 else if x = 63 then some 63 else if x = 92 then some 92 else if x = 97 then some 7 else if x = 98 then some 8
 else if x = 102 then some 12 else if x = 110 then some 10 else if x = 114 then some 13 else if x = 116 then some 9 else if x = 118 then some 11 else none
theorem Aya : ∀ x ∈ Qn, ∃ i y, Xo Qn x = Int.ofNat i ∧ Tz x = some y ∧ ∃ h : i < Alm.length, Alm[i] = y := by
 intro x hx
 simp only [Qn, List.mem_cons, List.not_mem_nil, or_false] at hx
 rcases hx with rfl | rfl | rfl | rfl | rfl | rfl | rfl | rfl | rfl | rfl | rfl
 · exact ⟨0, _, by kernel_rfl, rfl, by decide, rfl⟩
 · exact ⟨1, _, by kernel_rfl, rfl, by decide, rfl⟩
 · exact ⟨2, _, by kernel_rfl, rfl, by decide, rfl⟩
 · exact ⟨3, _, by kernel_rfl, rfl, by decide, rfl⟩
 · exact ⟨4, _, by kernel_rfl, rfl, by decide, rfl⟩
 · exact ⟨5, _, by kernel_rfl, rfl, by decide, rfl⟩
 · exact ⟨6, _, by kernel_rfl, rfl, by decide, rfl⟩
 · exact ⟨7, _, by kernel_rfl, rfl, by decide, rfl⟩
 · exact ⟨8, _, by kernel_rfl, rfl, by decide, rfl⟩
 · exact ⟨9, _, by kernel_rfl, rfl, by decide, rfl⟩
 · exact ⟨10, _, by kernel_rfl, rfl, by decide, rfl⟩
theorem Aro {x : UInt8} (h : x ∉ Qn) : Tz x = none := by
 simp [Qn] at h
 obtain ⟨h1, h2, h3, h4, h5, h6, h7, h8, h9, h10, h11⟩ := h
 unfold Tz
 rw [if_neg h1, if_neg h2, if_neg h3, if_neg h4, if_neg h5, if_neg h6, if_neg h7, if_neg h8, if_neg h9, if_neg h10, if_neg h11]
def Zw (s : List UInt8) (n f B : Nat) : UInt8 × Nat := if n ≤ f then (0, 0) else (UInt8.ofNat (Ba3 B 0 (Lj ((s.drop f).take (n - f)))), n)
def Eu (s : List UInt8) : UInt8 × Nat := match s with
 | [] => (0, 0)
 | c :: r => match Tz c with
  | some y => (y, 1)
  | none => if c = 120 then Zw (c :: r) (1 + Cl r Gk) 1 16 else Zw (c :: r) (min (Cl (c :: r) Zv) 3) 0 8
theorem A4o {a b : Nat} {K : Int → Prop} (ha : a ≤ 9223372036854775807) (hb : b ≤ 9223372036854775807) (hk : K (Int.ofNat (a &&& b))) : Abz Nat.land .i64 (Int.ofNat a) (Int.ofNat b) K := by
 show (Bool.rec False (fN (Nat.land a b) (fun n => K (.ofNat n))) (Ai (Nat.ble a (intMax .i64)) (Nat.ble b (intMax .i64))) : Prop)
 rw [Nat.ble_eq_true_of_le (show a ≤ intMax .i64 from ha), Nat.ble_eq_true_of_le (show b ≤ intMax .i64 from hb)]
 exact hk
theorem A39 {h : H} {p : P} {s : List UInt8} {i : Nat} (ha : h.at p = .iter s.length (enc s) i) : Tg (.ptr p 0) true h = Nt p s.length (enc s) i h := by
 unfold Tg
 simp only [ha]
 rfl
theorem Bjv (l c : Nat) (h : H) : Oh env 9 (.str l c) h = some (.ptr h.next 0, h.new (.iter l c 0)) := by kernel_rfl
theorem wrap_u8 (n : Nat) : wrap .u8 (Int.ofNat n) = Int.ofNat (UInt8.ofNat n).toNat := by
 rw [Ga]
 have : (UInt8.ofNat n).toNat = n % 256 := by simp
 rw [this]
 simp [IntKind.wrap, IntKind.bits, IntKind.signed]
theorem Awc {ds : List UInt8} {B n5 : Nat} {p : P} {k : KV} (hds : ∀ x ∈ ds, x ∈ Ap1) (hB : B ≤ 16) : ∀ (n i v : Nat) (h : H), ds.length - i < n → i ≤ ds.length → v ≤ 4095 → h.at p = .iter ds.length (enc ds) i →
    (∀ h', k (.tuple [ub (UInt8.ofNat (Ba3 B v (ds.drop i))), .int .i64 (Int.ofNat n5)]) h') → (Zp W1 k n).a1 (Int.ofNat n5) (Int.ofNat B) (Int.ofNat v) (.ptr p 0) h
  | 0, _, _, _, hn, _, _, _, _ => absurd hn (Nat.not_lt_zero _)
  | n + 1, i, v, h, hn, hi, hv, ha, hk => by
    refine A5e ?_
    unfold Afj
    rw [A39 ha]
    by_cases e : i < ds.length
    · have hd : ds.drop i = ds[i] :: ds.drop (i + 1) := List.drop_eq_getElem_cons e
      have hx := hds _ (List.getElem_mem e)
      have hx1 := Atu _ hx
      have e1 : Nt p ds.length (enc ds) i h = some (.tuple [.bool true, .int .i64 (.ofNat i), .int .i32 (.ofNat (ds[i]).toNat)], h.put p (.iter ds.length (enc ds) (Nat.add i 1))) := by
        unfold Nt
        rw [Nat.ble_eq_true_of_le (show Nat.add i 1 ≤ ds.length from e), Aon e]
        have : Nat.ble 128 (ds[i]).toNat = false := by
          cases hb : Nat.ble 128 (ds[i]).toNat with
          | false => rfl
          | true => exact absurd (Nat.le_of_ble_eq_true hb) (by omega)
        rw [this]
      rw [e1, Ae, En, Cg]
      refine Cd rfl ?_
      rw [A1m, Au]
      have hdl := A8i _ hx
      have hm : v * B ≤ 4095 * 16 := Nat.mul_le_mul hv hB
      have w1 : wrap .i64 (Int.ofNat v * Int.ofNat B) = Int.ofNat (v * B) := by
        rw [show Int.ofNat v * Int.ofNat B = Int.ofNat (v * B) from rfl]; exact Cm (by omega)
      rw [w1, Ar]
      refine Dq (Bm5 Gk ds[i] hx1) ?_
      rw [Au, Az3 _ hx]
      have w2 : wrap .i64 (Bo (Int.ofNat (v * B)) (Int.ofNat (Alo ds[i]))) = Int.ofNat (v * B + Alo ds[i]) := by
        rw [Hf, show Int.ofNat (v * B) + Int.ofNat (Alo ds[i]) = Int.ofNat (v * B + Alo ds[i]) from rfl]; exact Cm (by omega)
      rw [w2, Ar]
      refine A4o (by omega) (by omega) ?_
      refine Awc hds hB n (i + 1) _ _ (by omega) e Nat.and_le_right (Bn _ _ _) ?_
      rw [hd] at hk
      exact hk
    · have hd : ds.drop i = [] := by rw [List.drop_eq_nil_iff]; omega
      have e1 : Nt p ds.length (enc ds) i h = some (.tuple [.bool false], h) := by
        unfold Nt
        have : Nat.ble (Nat.add i 1) ds.length = false := by
          cases hb : Nat.ble (Nat.add i 1) ds.length with
          | false => rfl
          | true => exact absurd (Nat.le_of_ble_eq_true hb) (by show ¬ i + 1 ≤ _; omega)
        rw [this]
      rw [e1, Ae, En, Cg]
      refine Bi rfl ?_
      rw [wrap_u8, Ar]
      rw [hd] at hk
      exact hk h
theorem Awb {s : List UInt8} {n f B m : Nat} {k : KV} (hl : s.length ≤ 1099511627776) (hn : n ≤ s.length) (hd : ∀ x ∈ (s.drop f).take (n - f), x ∈ Gk) (hB : B ≤ 16) (hm : s.length + 2 ≤ m)
    (hk : ∀ h', k (.tuple [ub (Zw s n f B).1, .int .i64 (Int.ofNat (Zw s n f B).2)]) h') : (Zp W1 k (m + 1)).a2 s.length (enc s) (Int.ofNat n) (Int.ofNat B) (Int.ofNat f) h0 := by
  refine A5d ?_
  unfold Afi
  rw [Jl]
  unfold Zw at hk
  refine Bb (fun e => ?_) (fun e => ?_)
  · have e : n ≤ f := Int.ofNat_le.1 (of_decide_eq_true e)
    rw [if_pos e] at hk; exact hk _
  · have e : ¬ n ≤ f := fun h => (of_decide_eq_false e) (Int.ofNat_le.2 h)
    rw [if_neg e] at hk
    rw [As, As]
    refine Wq (by omega) hn ?_
    have ll : ((s.drop f).take (n - f)).length ≤ s.length := by rw [List.length_take, List.length_drop]; omega
    refine Dq (Bm6 _ (fun x hx => Azo x (hd x hx)) (by omega)) ?_
    rw [Ck, Bjv, Ae]
    have l2 : (Lj ((s.drop f).take (n - f))).length ≤ s.length := by unfold Lj; rw [List.length_map]; exact ll
    refine Awc (fun x hx => ?_) hB _ 0 0 _ (by omega) (Nat.zero_le _) (Nat.zero_le _) (Aw _ _) ?_
    · obtain ⟨y, hy, rfl⟩ := List.mem_map.1 hx
      exact Azd y (hd y hy)
    · rw [List.drop_zero]; exact hk
theorem Arh (s set : List UInt8) : s.take (Cl s set) = s.takeWhile (· ∈ set) := (List.prefix_iff_eq_take.1 (List.takeWhile_prefix _)).symm
theorem Afm {s set : List UInt8} {x : UInt8} {n : Nat} (hn : n ≤ Cl s set) (hx : x ∈ s.take n) : x ∈ set := by
 have h1 : x ∈ s.take (Cl s set) := List.take_subset_take_left _ hn hx
 rw [Arh] at h1
 have := List.all_eq_true.1 List.all_takeWhile x h1
 simpa using this
theorem Bj2 (n : Nat) (h : H) : An env .min [3, 3] [.int .i64 (Int.ofNat n), .int .i64 (Int.ofNat 3)] h = some (.int .i64 (Int.ofNat (min n 3)), h) := by
 have e : An env .min [3, 3] [.int .i64 (Int.ofNat n), .int .i64 (Int.ofNat 3)] h = some (.int .i64 (Bool.rec (Int.ofNat n) (Int.ofNat 3) (Db (Int.ofNat 3) (Int.ofNat n))), h) := by kernel_rfl
 rw [e, ilt]
 by_cases hc : 3 < n
 · rw [decide_eq_true hc, Nat.min_eq_right (by omega)]
 · rw [decide_eq_false hc, Nat.min_eq_left (by omega)]
theorem Bgx (s : List UInt8) (hl : s.length ≤ 1099511627776) : Pure PP G h0 108 [S s] (.tuple [ub (Eu s).1, .int .i64 (Int.ofNat (Eu s).2)]) := by
 refine Ba0 (n := s.length + 10) Bm (Bl0 ?_)
 unfold Afk
 cases s with
 | nil => exact Cd rfl rfl
 | cons c r =>
  refine Bi (Ky c r) ?_
  refine Cr (s := c :: r) (Nat.zero_lt_succ _) ?_
  refine Dq (A8x Qn c) ?_
  rw [Au, Jl]
  by_cases hin : c ∈ Qn
  · obtain ⟨i, y, e1, e2, e3, e4⟩ := Aya c hin
    have ee : Eu (c :: r) = (y, 1) := by show (match Tz c with | some y => (y, 1) | none => _) = _; rw [e2]
    show cnd (decide (Int.ofNat 0 ≤ Xo Qn c)) _ _
    rw [e1]
    refine Cd (decide_eq_true (Int.ofNat_le.2 (Nat.zero_le _))) ?_
    rw [As]
    refine Cr (s := Alm) e3 ?_
    show AV.tuple [_, _] = AV.tuple [_, _]
    rw [ee, e4]; rfl
  · have hneg : Xo Qn c < 0 := (Zq Qn c).2 hin
    have es := Aro hin
    refine Bi (decide_eq_false fun h => by have : (0 : Int) ≤ Xo Qn c := h; omega) ?_
    refine Dq (Aqs Ate (by decide) (c :: r) (by omega)) ?_
    rw [Au, Bj2, Ae, Au]
    refine Cr (s := c :: r) (Nat.zero_lt_succ _) ?_
    rw [toNat_eq _ 120 (by decide)]
    have hlr : r.length ≤ 1099511627776 := by simp at hl; omega
    refine Bb (fun e => ?_) (fun e => ?_)
    · have e : c = 120 := of_decide_eq_true e
      refine Fv (s := c :: r) (Nat.le_add_left 1 _) ?_
      refine Dq (Aqs Ale (by decide) r (by omega)) ?_
      have hr := Ln r Gk
      have w1 : wrap .i64 (Bo (Int.ofNat 1) (Int.ofNat (Cl r Gk))) = Int.ofNat (1 + Cl r Gk) := by
       rw [Hf, show Int.ofNat 1 + Int.ofNat (Cl r Gk) = Int.ofNat (1 + Cl r Gk) from rfl]; exact Cm (by omega)
      rw [Au, w1, Ar]
      refine Awb (s := c :: r) (n := 1 + Cl r Gk) (f := 1) (B := 16) hl (by simp; omega) (fun x hx => ?_) (Nat.le_refl _) (by omega) fun h' => ?_
      · rw [List.drop_succ_cons, List.drop_zero, show 1 + Cl r Gk - 1 = Cl r Gk by omega] at hx
        exact Afm (Nat.le_refl _) hx
      · have ee : Eu (c :: r) = Zw (c :: r) (1 + Cl r Gk) 1 16 := by
         show (match Tz c with | some y => (y, 1) | none => _) = _
         rw [es]; exact if_pos e
        rw [ee]
    · have e : ¬ c = 120 := of_decide_eq_false e
      have hr := Ln (c :: r) Zv
      refine Awb (s := c :: r) (n := min (Cl (c :: r) Zv) 3) (f := 0) (B := 8) hl (by omega) (fun x hx => ?_) (by decide) (by omega) fun h' => ?_
      · rw [List.drop_zero, Nat.sub_zero] at hx
        exact Ay2 x (Afm (Nat.min_le_left _ _) hx)
      · have ee : Eu (c :: r) = Zw (c :: r) (min (Cl (c :: r) Zv) 3) 0 8 := by
         show (match Tz c with | some y => (y, 1) | none => _) = _
         rw [es]; exact if_neg e
        rw [ee]
theorem Aou (s : List UInt8) : (Eu s).2 ≤ s.length := by
 cases s with
 | nil => exact Nat.le_refl _
 | cons c r =>
  show (match Tz c with | some y => (y, 1) | none => if c = 120 then Zw (c :: r) (1 + Cl r Gk) 1 16 else Zw (c :: r) (min (Cl (c :: r) Zv) 3) 0 8 : UInt8 × Nat).2 ≤ _
  have key : ∀ n f B, n ≤ (c :: r).length → (Zw (c :: r) n f B).2 ≤ (c :: r).length := by
   intro n f B hn
   unfold Zw
   split
   · exact Nat.zero_le _
   · exact hn
  cases Tz c with
  | some y => exact Nat.le_add_left 1 _
  | none =>
   have h1 := Ln r Gk
   have h2 := Ln (c :: r) Zv
   show (if c = 120 then _ else _ : UInt8 × Nat).2 ≤ _
   split
   · exact key _ _ _ (by simp; omega)
   · exact key _ _ _ (by omega)
def Np : List UInt8 → Bool
 | [] => false
 | c :: _ => decide (c = 34) || decide (c = 39)
def Ow : List (List UInt8) := [[], [76], [117], [85], [117, 56]]
def Dh : List (List UInt8) → List UInt8 → List UInt8 × Bool
 | [], _ => ([], false)
 | s :: ss, text => if (decide (text.take s.length = s) && Np (text.drop s.length)) then (s, true) else Dh ss text
def Bf (text : List UInt8) : List UInt8 × Bool := Dh Ow text
def T5b : Tm := Option.rec .e (fun t => t) (Qi (Nr 1) 5 [(0, .str 0 0), (1, .str 1 76), (2, .str 1 117), (3, .str 1 85), (4, .str 2 14453)] (Ah (Iw [.str 0 0] 5) 0 .e))
theorem b5b (h : H) : Al env 44 (fun e ei => Aj 5 [(0, (.str 0 0)), (1, (.str 1 76)), (2, (.str 1 117)), (3, (.str 1 85)), (4, (.str 2 14453))] h e ei) = some (.slice h.next 0 5 1 true, h.new (.row T5b 5 0 9 true)) := by kernel_rfl
theorem A30 {h : H} {b : P} (ha : h.at b = .row T5b 5 0 9 true) {r : Nat} (hr : r < 5) {K : Nat → Nat → Prop} (hk : ∀ t rest, Ow.drop r = t :: rest → rest = Ow.drop (r + 1) → K t.length (enc t)) : Cf 1 r (.slice b 0 5 1 true) fun v => ld1 v h fun v => asS v K := by
 have key : ∀ t, Ow.drop r = t :: Ow.drop (r + 1) → Ba T5b r = S t → Cf 1 r (.slice b 0 5 1 true) fun v => ld1 v h fun v => asS v K := by
  intro t ht e
  have hb : Cf 1 r (.slice b 0 5 1 true) (fun v => ld1 v h fun v => asS v K) = ld1 (.ptr b r) h fun v => asS v K := by
   match r, hr with
   | 0, _ | 1, _ | 2, _ | 3, _ | 4, _ => rfl
  rw [hb]
  refine Da ha hr ?_
  rw [e]
  exact hk t _ ht rfl
 match r, hr with
 | 0, _ => exact key [] rfl (by kernel_rfl)
 | 1, _ => exact key [76] rfl (by kernel_rfl)
 | 2, _ => exact key [117] rfl (by kernel_rfl)
 | 3, _ => exact key [85] rfl (by kernel_rfl)
 | 4, _ => exact key [117, 56] rfl (by kernel_rfl)
theorem Bgu (s t : List UInt8) : Pure PP G h0 163 [S s, S t] (if s.take t.length = t then .tuple [S (s.drop t.length), .bool true] else .tuple [S s, .bool false]) := by
 refine A99 (n := 1) Bm (Bk8 ?_)
 unfold Aeg
 refine Dq (Bgs s t) ?_
 rw [Cg, Bl]
 refine Bb (fun e => ?_) (fun e => ?_)
 · have e : ¬ s.take t.length = t := by simpa using e
   rw [if_neg e]
 · have e : s.take t.length = t := by simpa using e
   have : t.length ≤ s.length := by have := congrArg List.length e; simp at this; omega
   refine Fv this ?_
   rw [if_pos e]
theorem Bnh (s t : List UInt8) : Pure PP G h0 109 [S s, S t] (if s.take t.length = t then .tuple [S (s.drop t.length), .bool true] else .tuple [S s, .bool false]) := by
 refine Baz (n := 1) Bm (Blz ?_)
 unfold Afh
 by_cases e : s.take t.length = t
 · have h1 := Bgu s t
   rw [if_pos e] at h1 ⊢
   refine Dq h1 ?_
   rw [En, Ck, Ev, Cg]
 · have h1 := Bgu s t
   rw [if_neg e] at h1 ⊢
   refine Dq h1 ?_
   rw [En, Ck, Ev, Cg]
theorem A1z {s : List UInt8} {h : H} {b : P} (ha : h.at b = .row T5b 5 0 9 true) {k : KV} : ∀ (n i : Nat), 5 - i < n → i ≤ 5 → k (.tuple [S (Dh (Ow.drop i) s).1, .bool (Dh (Ow.drop i) s).2]) h → (r60 W1 k n).a1 s.length (enc s) (.slice b 0 5 1 true) (Int.ofNat 5) (Int.ofNat i) h
 | 0, _, hn, _, _ => absurd hn (Nat.not_lt_zero _)
 | n + 1, i, hn, hi, hk => by
  refine Bd2 ?_
  unfold Ana
  rw [Fm]
  refine Bb (fun e => ?_) (fun e => ?_)
  · have e : i < 5 := Int.ofNat_lt.1 (of_decide_eq_true e)
    rw [As]
    refine A30 ha e fun t rest h1 h2 => ?_
    rw [h1] at hk
    have rec_ : (decide (s.take t.length = t) && Np (s.drop t.length)) = false → fI (wrap .i64 (Bo (Int.ofNat i) (Int.ofNat 1))) fun n27 => (r60 W1 k n).a1 s.length (enc s) (.slice b 0 5 1 true) (Int.ofNat 5) n27 h := by
     intro hc
     rw [Aam (by omega), Ar]
     refine A1z ha n (i + 1) (by omega) e ?_
     rw [← h2]
     have : Dh (t :: rest) s = Dh rest s := if_neg (by rw [hc]; simp)
     rw [this] at hk; exact hk
    refine Dq (Bnh s t) ?_ rfl (by split <;> rfl)
    by_cases ht : s.take t.length = t
    · rw [if_pos ht, En, Ck, Ev, Cg]
      refine Sp ?_
      rw [Gn, Bl]
      cases hr : s.drop t.length with
      | nil =>
       refine Iz (fun e => ?_) (fun _ => ?_)
       · simp at e
       · exact Bi rfl (rec_ (by rw [hr]; simp [Np]))
      | cons c r =>
       refine Iz (fun _ => ?_) (fun e => ?_)
       · refine Cr (s := c :: r) (Nat.zero_lt_succ _) ?_
         refine Ry (b := decide (c = 39)) (fun k' hk' => ?_) ?_
         · refine Cr (s := c :: r) (Nat.zero_lt_succ _) ?_
           rw [toNat_eq _ 39 (by decide)]; exact hk'
         · rw [toNat_eq _ 34 (by decide)]
           refine Bb (fun e => ?_) (fun e => ?_)
           · have : Dh (t :: rest) s = (t, true) := if_pos (by rw [hr]; rw [decide_eq_true ht]; exact e)
             rw [this] at hk; exact hk
           · refine rec_ ?_
             rw [hr, decide_eq_true ht]; exact e
       · simp at e
    · rw [if_neg ht, En, Ck, Ev, Cg]
      refine Iz (fun e => by cases e) (fun _ => ?_)
      refine Iz (fun e => by cases e) (fun _ => ?_)
      exact Bi rfl (rec_ (by rw [decide_eq_false ht]; rfl))
  · have e : i = 5 := by
     have : ¬ i < 5 := fun h => (of_decide_eq_false e) (Int.ofNat_lt.2 h)
     omega
    subst e
    exact hk
theorem c60 (s : List UInt8) : Pure PP G h0 60 [S s] (.tuple [S (Bf s).1, .bool (Bf s).2]) := by
 refine w60 (n := 10) Bm (g60 ?_)
 unfold Anb
 rw [b5b, Ae]
 show (r60 W1 _ 9).a1 s.length (enc s) (.slice h0.next 0 5 1 true) (Int.ofNat 5) (Int.ofNat 0) _
 exact A1z (Aw _ _) 9 0 (by decide) (by decide) rfl
def Gx (q : UInt8) : Nat → List UInt8 → Option (List UInt8)
 | 0, _ => none
 | _ + 1, [] => some []
 | n + 1, c :: r => if c = q then none else if c = 92 then (if (Eu r).2 = 0 then none else (Gx q n (r.drop (Eu r).2)).map ((Eu r).1 :: ·)) else (Gx q n r).map (c :: ·)
theorem Lf {q : UInt8} : ∀ (n m : Nat) (s : List UInt8), s.length < n → s.length < m → Gx q n s = Gx q m s
 | 0, _, _, h, _ => absurd h (Nat.not_lt_zero _)
 | _, 0, _, _, h => absurd h (Nat.not_lt_zero _)
 | n + 1, m + 1, [], _, _ => rfl
 | n + 1, m + 1, c :: r, h1, h2 => by
  have h1 : r.length < n := Nat.lt_of_succ_lt_succ h1
  have h2 : r.length < m := Nat.lt_of_succ_lt_succ h2
  show (if c = q then none else if c = 92 then (if (Eu r).2 = 0 then none else (Gx q n (r.drop (Eu r).2)).map ((Eu r).1 :: ·)) else (Gx q n r).map (c :: ·)) = (if c = q then none else if c = 92 then (if (Eu r).2 = 0 then none else (Gx q m (r.drop (Eu r).2)).map ((Eu r).1 :: ·)) else (Gx q m r).map (c :: ·))
  rw [Lf n m r h1 h2, Lf n m (r.drop (Eu r).2) (by rw [List.length_drop]; omega) (by rw [List.length_drop]; omega)]
def Aqt (o : Option (List UInt8)) : AV := match o with
 | some l => .tuple [S l, .bool true]
 | none => .tuple [S [], .bool false]
def Afo (t : List UInt8) : Option (List UInt8) := match t with
 | [] => none
 | q :: r => if r = [] then none else if r.getLast? = some q then Gx q (r.length + 1) r.dropLast else none
def Ll (s : List UInt8) : Option (List UInt8) := if (Bf s).2 = true then Afo (s.drop (Bf s).1.length) else none
theorem Qe (s : List UInt8) : ∀ ps, (Dh ps s).2 = true → s.take (Dh ps s).1.length = (Dh ps s).1 ∧ Np (s.drop (Dh ps s).1.length) = true
 | [], h => by cases h
 | p :: ps, h => by
  by_cases e : (decide (s.take p.length = p) && Np (s.drop p.length)) = true
  · have e1 : Dh (p :: ps) s = (p, true) := if_pos e
    rw [e1]
    simpa using e
  · have e1 : Dh (p :: ps) s = Dh ps s := if_neg e
    rw [e1] at h ⊢
    exact Qe s ps h
theorem Xe (s : List UInt8) : ∀ ps, (Dh ps s).2 = false → (Dh ps s).1 = []
 | [], _ => rfl
 | p :: ps, h => by
  by_cases e : (decide (s.take p.length = p) && Np (s.drop p.length)) = true
  · have e1 : Dh (p :: ps) s = (p, true) := if_pos e
    rw [e1] at h; cases h
  · have e1 : Dh (p :: ps) s = Dh ps s := if_neg e
    rw [e1] at h ⊢
    exact Xe s ps h
theorem Xd (s : List UInt8) : (Bf s).1.length ≤ s.length := by
 cases h : (Bf s).2 with
 | true =>
  have := congrArg List.length (Qe s Ow h).1
  rw [List.length_take] at this
  show (Dh Ow s).1.length ≤ s.length
  omega
 | false =>
  have : (Bf s).1 = [] := Xe s Ow h
  rw [this]; exact Nat.zero_le _
theorem A1i {n : Nat} (h1 : 1 ≤ n) (h2 : n ≤ 9223372036854775807) : wrap .i64 (Jr (Int.ofNat n) (Int.ofNat 1)) = Int.ofNat (n - 1) := by
 rw [Ut, show Int.ofNat n - Int.ofNat 1 = Int.ofNat (n - 1) by show (n : Int) - ((1 : Nat) : Int) = ((n - 1 : Nat) : Int); omega]
 exact Cm (by omega)
theorem Ao1 {q : UInt8} {r : List UInt8} {b : P} {k : KV} : ∀ (n : Nat) (s acc : List UInt8) (h : H), s.length < n → s.length + acc.length ≤ 549755813888 → Bld false h b acc →
    (∀ h', k (Aqt ((Gx q n s).map (acc ++ ·))) h') → (r59 W1 k n).a1 (q :: r).length (enc (q :: r)) (.ptr b 0) s.length (enc s) h
  | 0, _, _, _, hn, _, _, _ => absurd hn (Nat.not_lt_zero _)
  | n + 1, [], acc, h, hn, hl, hb, hk => by
    refine A1g ?_
    unfold Ahr
    refine Cd rfl ?_
    refine c63 hb (.inl rfl) (by simp at hl; omega) fun h' => ?_
    rw [Ck]
    have := hk h'
    rw [show (Gx q (n + 1) []).map (acc ++ ·) = some acc by show some (acc ++ []) = _; rw [List.append_nil]] at this
    exact this
  | n + 1, c :: s, acc, h, hn, hl, hb, hk => by
    have hn : s.length < n := Nat.lt_of_succ_lt_succ hn
    have hl' : s.length + 1 + acc.length ≤ 549755813888 := hl
    refine A1g ?_
    unfold Ahr
    refine Bi (Ky c s) ?_
    refine Cr (s := c :: s) (Nat.zero_lt_succ _) ?_
    refine Cr (s := q :: r) (Nat.zero_lt_succ _) ?_
    rw [List.getElem_cons_zero, List.getElem_cons_zero, Pe]
    have eb : Gx q (n + 1) (c :: s) = if c = q then none else if c = 92 then (if (Eu s).2 = 0 then none else (Gx q n (s.drop (Eu s).2)).map ((Eu s).1 :: ·)) else (Gx q n s).map (c :: ·) := rfl
    rw [eb] at hk
    have mm : ∀ (x : UInt8) (o : Option (List UInt8)), (o.map (x :: ·)).map (acc ++ ·) = o.map ((acc ++ [x]) ++ ·) := by
      intro x o
      cases o with
      | none => rfl
      | some l => simp
    refine Bb (fun e => ?_) (fun e => ?_)
    · have e : c = q := of_decide_eq_true e
      rw [if_pos e] at hk
      obtain ⟨n', rfl⟩ : ∃ n', n = n' + 1 := ⟨n - 1, by omega⟩
      refine A1f ?_
      unfold Ahq
      exact hk h
    · have e : ¬ c = q := of_decide_eq_false e
      rw [if_neg e] at hk
      refine Cr (s := c :: s) (Nat.zero_lt_succ _) ?_
      rw [List.getElem_cons_zero, toNat_eq _ 92 (by decide), Bl]
      refine Bb (fun e2 => ?_) (fun e2 => ?_)
      · have e2 : ¬ c = 92 := by simpa using e2
        rw [if_neg e2] at hk
        refine Cr (s := c :: s) (Nat.zero_lt_succ _) ?_
        refine Awd (x := c) hb (by omega) fun h' hb' => ?_
        refine Fv (s := c :: s) (Nat.le_add_left 1 _) ?_
        refine Ao1 n s (acc ++ [c]) h' hn (by rw [List.length_append, List.length_singleton]; omega) hb' ?_
        intro h2
        have := hk h2
        rw [mm] at this; exact this
      · have e2 : c = 92 := by simpa using e2
        rw [if_pos e2] at hk
        refine Fv (s := c :: s) (Nat.le_add_left 1 _) ?_
        refine Dq (Bgx s (by omega)) ?_
        have hle := Aou s
        rw [En]
        show asI .u8 (.int .u8 (Int.ofNat (Eu s).1.toNat)) _
        rw [Au, Ev, Au, ilt]
        refine Bb (fun e3 => ?_) (fun e3 => ?_)
        · have e3 : 0 < (Eu s).2 := of_decide_eq_true e3
          rw [if_neg (by omega)] at hk
          refine Awd hb (by omega) fun h' hb' => ?_
          have w1 : wrap .i64 (Bo (Int.ofNat 1) (Int.ofNat (Eu s).2)) = Int.ofNat (1 + (Eu s).2) := by
            rw [Hf, show Int.ofNat 1 + Int.ofNat (Eu s).2 = Int.ofNat (1 + (Eu s).2) from rfl]; exact Cm (by omega)
          rw [w1, Ar, As]
          refine Fv (s := c :: s) (by simp; omega) ?_
          have hd : (c :: s).drop (1 + (Eu s).2) = s.drop (Eu s).2 := by rw [Nat.add_comm, List.drop_succ_cons]
          rw [hd]
          refine Ao1 n (s.drop (Eu s).2) (acc ++ [(Eu s).1]) h' (by rw [List.length_drop]; omega) (by rw [List.length_append, List.length_singleton, List.length_drop]; omega) hb' ?_
          intro h2
          have := hk h2
          rw [mm] at this; exact this
        · have e3 : ¬ 0 < (Eu s).2 := of_decide_eq_false e3
          rw [if_pos (by omega)] at hk
          exact hk h
theorem Ai2 {q : UInt8} {r : List UInt8} (hr : r ≠ []) (h : (q :: r).length - 1 < (q :: r).length) : r.getLast? = some ((q :: r)[(q :: r).length - 1]) := by
 cases r with
 | nil => exact absurd rfl hr
 | cons c r =>
  rw [List.getLast?_eq_getElem?]
  simp
theorem c59 (s : List UInt8) (hl : s.length ≤ 549755813888) : Pure PP G h0 59 [S s] (Aqt (Ll s)) := by
 refine w59 (n := s.length + 10) Bm (g59 ?_)
 unfold Anf
 refine Ek ?_
 refine Dq (c60 s) ?_
 rw [En, Ck, Ev, Cg]
 refine Fv (Xd s) ?_
 have hlt : (s.drop (Bf s).1.length).length ≤ s.length := by rw [List.length_drop]; omega
 have bad : ∀ h, Ll s = none → (r59 W1 (fun v _ => v = Aqt (Ll s)) (s.length + 9)).a2 h := by
  intro h e
  refine A1f ?_
  unfold Ahq
  show AV.tuple _ = _
  rw [e]; rfl
 refine Kh ?_
 rw [Bl, ilt]
 refine We (fun e => ?_) (fun e => ?_)
 · rw [Bool.or_eq_false_iff] at e
   obtain ⟨e1, e2⟩ := e
   have e1 : (Bf s).2 = true := by simpa using e1
   have e2 : ¬ (s.drop (Bf s).1.length).length < 2 := of_decide_eq_false e2
   have eb : Ll s = Afo (s.drop (Bf s).1.length) := if_pos e1
   revert hlt e2 eb
   generalize s.drop (Bf s).1.length = t
   intro hlt e2 eb
   match t, hlt, e2, eb with
   | [], _, e2, _ => exact absurd (by decide) e2
   | [_], _, e2, _ => exact absurd (show 1 < 2 by decide) e2
   | q :: c :: r, hlt, _, eb =>
    have hne : (c :: r) ≠ [] := by simp
    have h1 : 1 ≤ (q :: c :: r).length := Nat.le_add_left 1 _
    have h2 : (q :: c :: r).length - 1 < (q :: c :: r).length := by omega
    rw [A1i h1 (by omega), Ar, As]
    refine Cr h2 ?_
    refine Cr (s := q :: c :: r) (Nat.zero_lt_succ _) ?_
    rw [List.getElem_cons_zero, Pe, Bl]
    have hlast := Ai2 hne h2
    have eb : Ll s = if (c :: r) = [] then none else if (c :: r).getLast? = some q then Gx q ((c :: r).length + 1) (c :: r).dropLast else none := eb
    rw [if_neg hne, hlast] at eb
    refine Bb (fun e => ?_) (fun e => ?_)
    · have e : ¬ (q :: c :: r)[(q :: c :: r).length - 1] = q := by simpa using e
      rw [if_neg (fun h => e (Option.some.inj h))] at eb
      exact bad _ eb
    · have e : (q :: c :: r)[(q :: c :: r).length - 1] = q := by simpa using e
      rw [if_pos (congrArg some e)] at eb
      rw [Ar, As]
      refine Wq (lo := 1) (hi := (q :: c :: r).length - 1) (by simp) (by omega) ?_
      have hcut : ((q :: c :: r).drop 1).take ((q :: c :: r).length - 1 - 1) = (c :: r).dropLast := by
       rw [List.drop_succ_cons, List.drop_zero, List.dropLast_eq_take]; rfl
      rw [hcut]
      have hbl : (c :: r).dropLast.length ≤ s.length := by
       rw [List.length_dropLast]
       have : (q :: c :: r).length = (c :: r).length + 1 := rfl
       omega
      have hbn : (c :: r).dropLast.length < (c :: r).length + 1 := by rw [List.length_dropLast]; omega
      revert eb hbl hbn
      generalize (c :: r).length + 1 = N
      generalize (c :: r).dropLast = bd
      intro eb hbl hbn
      have hB := Bld.new h0
      cases bd with
      | nil =>
       refine Cd rfl ?_
       refine c63 hB (.inl rfl) (Nat.zero_le _) fun h' => ?_
       rw [Ck]
       show AV.tuple _ = _
       rw [eb, Lf N 1 [] hbn (by decide)]; rfl
      | cons d u =>
       obtain ⟨N, rfl⟩ : ∃ N', N = N' + 1 := ⟨N - 1, by omega⟩
       have hlen : (d :: u).length = u.length + 1 := rfl
       refine Bi (Ky d u) ?_
       refine Cr (s := d :: u) (Nat.zero_lt_succ _) ?_
       refine Cr (s := q :: c :: r) (Nat.zero_lt_succ _) ?_
       rw [List.getElem_cons_zero, List.getElem_cons_zero, Pe]
       have eb : Ll s = if d = q then none else if d = 92 then (if (Eu u).2 = 0 then none else (Gx q N (u.drop (Eu u).2)).map ((Eu u).1 :: ·)) else (Gx q N u).map (d :: ·) := eb
       refine Bb (fun e => ?_) (fun e => ?_)
       · have e : d = q := of_decide_eq_true e
         rw [if_pos e] at eb
         exact bad _ eb
       · have e : ¬ d = q := of_decide_eq_false e
         rw [if_neg e] at eb
         refine Cr (s := d :: u) (Nat.zero_lt_succ _) ?_
         rw [List.getElem_cons_zero, toNat_eq _ 92 (by decide), Bl]
         refine Bb (fun e2 => ?_) (fun e2 => ?_)
         · have e2 : ¬ d = 92 := by simpa using e2
           rw [if_neg e2] at eb
           refine Cr (s := d :: u) (Nat.zero_lt_succ _) ?_
           refine Awd (x := d) hB (by decide) fun h' hb' => ?_
           refine Fv (s := d :: u) (Nat.le_add_left 1 _) ?_
           refine Ao1 (s.length + 9) u ([] ++ [d]) h' (by omega) (by simp; omega) hb' ?_
           intro h2
           rw [eb, Lf N (s.length + 9) u (by omega) (by omega)]; rfl
         · have e2 : d = 92 := by simpa using e2
           rw [if_pos e2] at eb
           refine Fv (s := d :: u) (Nat.le_add_left 1 _) ?_
           refine Dq (Bgx u (by omega)) ?_
           have hle := Aou u
           rw [En]
           show asI .u8 (.int .u8 (Int.ofNat (Eu u).1.toNat)) _
           rw [Au, Ev, Au]
           refine Bd3 ?_
           unfold Ane
           rw [ilt]
           refine Bb (fun e3 => ?_) (fun e3 => ?_)
           · have e3 : 0 < (Eu u).2 := of_decide_eq_true e3
             rw [if_neg (by omega)] at eb
             refine Awd hB (by decide) fun h' hb' => ?_
             have w1 : wrap .i64 (Bo (Int.ofNat 1) (Int.ofNat (Eu u).2)) = Int.ofNat (1 + (Eu u).2) := by
              rw [Hf, show Int.ofNat 1 + Int.ofNat (Eu u).2 = Int.ofNat (1 + (Eu u).2) from rfl]; exact Cm (by omega)
             rw [w1, Ar, As]
             refine Fv (s := d :: u) (by simp; omega) ?_
             have hd : (d :: u).drop (1 + (Eu u).2) = u.drop (Eu u).2 := by rw [Nat.add_comm, List.drop_succ_cons]
             rw [hd]
             refine Ao1 (s.length + 8) (u.drop (Eu u).2) ([] ++ [(Eu u).1]) h' (by rw [List.length_drop]; omega) (by rw [List.length_drop]; simp; omega) hb' ?_
             intro h2
             rw [eb, Lf N (s.length + 8) (u.drop (Eu u).2) (by rw [List.length_drop]; omega) (by rw [List.length_drop]; omega)]; rfl
           · have e3 : ¬ 0 < (Eu u).2 := of_decide_eq_false e3
             rw [if_pos (by omega)] at eb
             show AV.tuple _ = _
             rw [eb]; rfl
 · refine Cd rfl ?_
   refine bad _ ?_
   rw [Bool.or_eq_true] at e
   rcases e with e | e
   · have e : ¬ (Bf s).2 = true := by simpa using e
     exact if_neg e
   · have e : (s.drop (Bf s).1.length).length < 2 := of_decide_eq_true e
     unfold Ll
     by_cases h : (Bf s).2 = true
     · rw [if_pos h]
       revert e
       generalize s.drop (Bf s).1.length = t
       intro e
       match t, e with
       | [], _ => rfl
       | [_], _ => rfl
       | _ :: _ :: _, e => exact absurd e (by simp)
     · exact if_neg h
end Go.Den
