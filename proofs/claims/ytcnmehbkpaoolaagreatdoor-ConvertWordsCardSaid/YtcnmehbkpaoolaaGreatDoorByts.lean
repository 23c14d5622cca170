/-
 A part of the proof.
-/
import Derived.Test.YtcnmehbkpaoolaaGreatDoorLex7
import Derived.Lib.MakeNoZero
noncomputable section
namespace Go.Den
open Go.RowKit
set_option maxRecDepth 100000
theorem Blj {n : Nat} (hn : n ≤ 1099511627776) {h : H} {k : KV} (hk : k (.slice h.next 0 n 1 false) (h.new (.row .e 0 0 TB false))) : W1 (.func 290) [.int .i64 (Int.ofNat n)] h k := by
 intro μ w fn' vargs s gl hfn hv
 have hfn' : fn' = .func 290 := by cases fn' <;> simp only [FnR] at hfn <;> first | (cases hfn; rfl) | cases hfn
 obtain ⟨v, vs, e, h1, h2⟩ := hv
 have h2 : vs = [] := h2
 have h1 : v = .int .i64 (Int.ofNat n) := h1
 subst h2 h1
 have hva : vargs = #[.int .i64 (Int.ofNat n)] := by apply Array.ext'; simpa using e
 subst hva
 obtain ⟨cs, hr, hle, _⟩ := Lib.run_makeNoZero (P := PP) w #[3] 115 TB Proofs.Tryz.underlying115 n (by omega)
 have hrun : (callFunc 290 #[.int .i64 (Int.ofNat n)]).run PP w = .ok (.value (.slice (some ⟨w.heap.size, 0, none⟩) n cs.size)) (w.drew.drew.alloc (.cells cs TB)) := by
  rw [run_callFunc_extern (e := Extern.BytealgMakeNoZero.makeNoZero #[3] #[115]) Proofs.Tryz.func290 (by kernel_rfl) (by kernel_rfl) (by kernel_rfl) (by kernel_rfl)]
  rw [show (Extern.BytealgMakeNoZero.makeNoZero #[3] #[115] #[.int .i64 (Int.ofNat n)]).run PP w = _ from hr]
  rfl
 obtain ⟨s1, x1⟩ := Sim.alloc (s.heap (w' := w.drew.drew) rfl) (.row .e 0 0 TB false) (.cells cs TB) cs.size 0 (fun μ' _ => by
  refine ⟨_, _, Ew w.drew.drew _, ⟨rfl, by show 0 + 0 ≤ cs.size; omega, fun j hj => absurd hj (Nat.not_lt_zero _)⟩, (fun e => nomatch e), fun _ i _ hi => ?_⟩
  intro hh
  omega)
 refine .inl ⟨290, hfn', .inl ⟨_, _, _, _, _, hrun, s1, (Cl.heap μ h (w := w) (w' := w.drew.drew) rfl rfl rfl rfl).trans x1, ?_, hk⟩⟩
 refine ⟨_, _, rfl, hle, ⟨(fun e => nomatch e), _, Mu.Ca _ _ _⟩, .inr ⟨_, Mu.Ca _ _ _, rfl, ?_⟩⟩
 show 0 + 0 + cs.size * 1 ≤ cs.size
 omega
theorem A1c (x : AV) (h : H) : Aq env .cap [115] [x] h = Alk x h := by kernel_rfl
theorem Bfs (x y : AV) (h : H) : Aq env .copy [115, 115] [x, y] h = Sw x y h TB ei8 := by kernel_rfl
theorem Bit (b : P) (n : Nat) (h : H) : slice3 env h 115 (.slice b 0 n 1 false) none (some (Bc (.int .i64 (Int.ofNat 0)))) none = Ex h (Sz b 0 n 1 false 0 0 none) := by kernel_rfl
theorem Bll {h : H} {b : P} {t : Tm} {n : Nat} {k : KV} (ha : h.at b = .row t 2 0 149 true) (hb : b.nat < h.next.nat) (h0 : Az t 0 = .ptr b 0) (h1 : Az t 1 = .Ad) (hn : n ≤ 1099511627776) (hk : ∀ h', Bld true h' b [] → k (.tuple []) h') : W1 (.func 258) [.ptr b 0, .int .i64 (Int.ofNat n)] h k := by
 refine A89 (n := 1) Bj (Bjp ?_)
 unfold Adl
 rw [Bi, Ae, El]
 refine Ct ha (by decide) ?_
 rw [h1, A1c, show (Alk AV.Ad h : Option (AV × H)) = some (.int .i64 (Int.ofNat 0), h) from rfl, Ae, Au, Ar, Ar]
 have e1 : wrap .i64 (Bp (wrap .i64 (Int.ofNat 2 * Int.ofNat 0)) (Int.ofNat n)) = Int.ofNat n := by
  rw [show wrap .i64 (Int.ofNat 2 * Int.ofNat 0) = Int.ofNat 0 by kernel_rfl, Gt, show Int.ofNat 0 + Int.ofNat n = Int.ofNat n by show (0 : Int) + (n : Int) = (n : Int); omega]
  exact Cm (by omega)
 rw [e1, Bi, Ae, El]
 refine Ct ha (by decide) ?_
 rw [h1]
 refine Blj hn ?_
 have ha1 : (h.new (.row .e 0 0 TB false)).at b = .row t 2 0 149 true := by rw [Df hb]; exact ha
 refine Ct ha1 (by decide) ?_
 rw [h1, Auy, Bit]
 have e2 : (Ex (h.new (.row .e 0 0 TB false)) (Sz h.next 0 n 1 false 0 0 none) : Option (AV × H)) = some (.slice h.next 0 0 1 false, h.new (.row .e 0 0 TB false)) := by
  cases n <;> rfl
 rw [e2, Ae, Bi, Ae, El]
 refine Ct ha1 (by decide) ?_
 rw [h1, Bfs]
 have e3 : ∃ h3, (Sw (.slice h.next 0 0 1 false) .Ad (h.new (.row .e 0 0 TB false)) TB ei8 : Option (AV × H)) = some (.int .i64 (Int.ofNat 0), h3) ∧ h3 = (h.new (.row .e 0 0 TB false)).put h.next (.row .e 0 0 TB false) := by
  refine ⟨_, ?_, rfl⟩
  show (Up 0 ((h.new (.row .e 0 0 TB false)).write h.next 0 []) : Option (AV × H)) = _
  have : (h.new (.row .e 0 0 TB false)).write h.next 0 [] = some ((h.new (.row .e 0 0 TB false)).put h.next (.row .e 0 0 TB false)) := by
   unfold Hp.write Hp.Gj
   rw [Ax]
   show (h.new (.row .e 0 0 TB false)).Pm h.next (.row .e 0 0 TB false) some = _
   rw [Li]
  rw [this]; rfl
 obtain ⟨h3, e3, e4⟩ := e3
 rw [e3, Ae, Au, Bi, Ae, El]
 have hbn : b ≠ h.next := fun e => by subst e; exact absurd hb (Nat.lt_irrefl _)
 have a3 : h3.at b = .row t 2 0 149 true := by rw [e4, Br hbn]; exact ha1
 have n3 : h3.next.nat = h.next.nat + 1 := by rw [e4]; exact Bg (o := .row .e 0 0 TB false)
 refine Bld.fin (g := true) (l := []) a3 (by omega) h0 (.inr ⟨h.next, .e, 0, 0, false, rfl, by omega, by rw [e4, Bn], Nat.le_refl _, Nat.le_refl _, fun i hi => absurd hi (Nat.not_lt_zero _), .inl rfl⟩) fun h' hb' => hk h' hb'
theorem Blo {h : H} {n : Nat} {k : KV} (hn1 : 1 ≤ n) (hn : n ≤ 1099511627776) (hk : ∀ h', Bld true h' h.next [] → k (.tuple []) h') : W1 (.func 208) [.ptr h.next 0, .int .i64 (Int.ofNat n)] (h.new Wt) k := by
 refine A9e (n := 2) Bj (Bju ?_)
 unfold Adr
 refine Aqj (t := Ah [.Fm, .Ad] 0 .e) (Ax _ _) (.inl (by kernel_rfl)) fun h1 t1 a1 p1 q1 n1 f1 => ?_
 have q1 : Az t1 1 = .Ad := q1
 refine Bl (by rw [Fh]; exact decide_eq_false (by show ¬ ((n : Int) < ((0 : Nat) : Int)); omega)) ?_
 refine A35 ?_
 unfold Adq
 rw [Bi, Ae, El]
 refine Ct a1 (by decide) ?_
 rw [q1, A1c, show (Alk AV.Ad h1 : Option (AV × H)) = some (.int .i64 (Int.ofNat 0), h1) from rfl, Ae, Au, Bi, Ae, El]
 refine Ct a1 (by decide) ?_
 rw [q1, Acj, show wrap .i64 (Jh (Int.ofNat 0) (Int.ofNat 0)) = Int.ofNat 0 by kernel_rfl, Ar]
 refine Cd (by rw [Fh]; exact decide_eq_true (by show ((0 : Nat) : Int) < (n : Int); omega)) ?_
 exact Bll a1 (by rw [n1, Bg]; omega) p1 q1 hn fun h' hb' => hk h' hb'
def isU (x : UInt8) : Bool := decide (65 ≤ x.toNat) && decide (x.toNat ≤ 90)
def Aps (x : UInt8) : UInt8 := if isU x then x + 32 else x
def Le (s : List UInt8) : List UInt8 := s.map Aps
theorem Aic {s : List UInt8} (h : s.any isU = false) : Le s = s := by
 unfold Le
 rw [List.any_eq_false] at h
 conv => rhs; rw [← List.map_id s]
 apply List.map_congr_left
 intro x hx
 have := h x hx
 unfold Aps
 rw [if_neg this]; rfl
theorem Aai {i : Nat} (h : i < 9223372036854775807) : wrap .i64 (Bp (Int.ofNat i) (Int.ofNat 1)) = Int.ofNat (i + 1) := by
 rw [Gt, show Int.ofNat i + Int.ofNat 1 = Int.ofNat (i + 1) from rfl]
 exact Cm (by omega)
theorem upK {x : UInt8} {h : H} {k : Bool → H → Prop} (hk : k (isU x) h) : Am (fun k6 => gate true (Fe (Int.ofNat 65) (Int.ofNat x.toNat)) (k6 (Fe (Int.ofNat x.toNat) (Int.ofNat 90)) h) (k6 false h)) k := by
 refine Sf ?_
 have : (Fe (Int.ofNat 65) (Int.ofNat x.toNat) && Fe (Int.ofNat x.toNat) (Int.ofNat 90)) = isU x := by
  rw [Ja, Ja]; unfold isU
  congr 1 <;> (rw [Bool.eq_iff_iff, decide_eq_true_eq, decide_eq_true_eq]; exact Int.ofNat_le)
 rw [this]; exact hk
def ascii (s : List UInt8) : Prop := ∀ x ∈ s, x.toNat < 128
theorem Avz {s : List UInt8} {k : KV} {e : Nat} (hs : ascii s) (hl : s.length ≤ 1099511627776) : ∀ (n i : Nat) (u : Bool), s.length - i + e + 1 ≤ n → i ≤ s.length → (∀ n', e ≤ n' → (Nc W1 k n').a5 s.length (enc s) true (u || (s.drop i).any isU) h0) → (Nc W1 k n).a1 s.length (enc s) true u (Int.ofNat i) h0
 | 0, _, _, hn, _, _ => absurd hn (by omega)
 | n + 1, i, u, hn, hi, hk => by
  refine A4g ?_
  unfold Aec
  rw [Fh]
  refine Bb (fun e' => ?_) (fun e' => ?_)
  · have e' : i < s.length := Int.ofNat_lt.1 (of_decide_eq_true e')
    rw [As]
    refine Ch e' ?_
    have hx : (s[i]).toNat < 128 := hs _ (List.getElem_mem e')
    refine Bl (by rw [Ja]; exact decide_eq_false fun h => by have := Int.ofNat_le.1 h; omega) ?_
    have hd : s.drop i = s[i] :: s.drop (i + 1) := List.drop_eq_getElem_cons e'
    refine Ou (b := isU s[i]) (fun k' hk' => upK hk') ?_
    rw [Aai (by omega), Ar]
    refine Avz (e := e) hs hl n (i + 1) _ (by omega) e' ?_
    intro n' hn'
    have := hk n' hn'
    rw [hd, List.any_cons, ← Bool.or_assoc] at this
    exact this
  · have e' : ¬ i < s.length := fun h => (of_decide_eq_false e') (Int.ofNat_lt.2 h)
    have hd : s.drop i = [] := by rw [List.drop_eq_nil_iff]; omega
    have := hk n (by omega)
    rw [hd] at this
    simpa using this
theorem A15 {x : UInt8} (h : isU x = true) : wrap .u8 (Bp (Int.ofNat x.toNat) (Int.ofNat 32)) = Int.ofNat (Aps x).toNat := by
 unfold Aps
 rw [if_pos h]
 have hx : x.toNat ≤ 90 := by unfold isU at h; simp at h; exact h.2
 have : (x + 32).toNat = x.toNat + 32 := by
  rw [UInt8.toNat_add]; show (x.toNat + 32) % 256 = _; omega
 rw [this, Gt, Fx]
 show IntKind.wrap .u8 ((x.toNat + 32 : Nat) : Int) = ((x.toNat + 32 : Nat) : Int)
 simp [IntKind.wrap, IntKind.bits, IntKind.signed]
 omega
theorem Aib {s : List UInt8} {p i : Nat} (hp : p ≤ i) (h : ((s.drop p).take (i - p)).any isU = false) : Le (s.take i) = Le (s.take p) ++ (s.drop p).take (i - p) := by
 have e : s.take i = s.take p ++ (s.drop p).take (i - p) := by
  have := List.take_add (l := s) (i := p) (j := i - p)
  rw [show p + (i - p) = i by omega] at this; exact this
 rw [e]
 unfold Le
 rw [List.map_append]
 congr 1
 exact Aic h
theorem Aln {s : List UInt8} {k : KV} {b : P} (hl : s.length ≤ 1099511627776) (hne : s ≠ []) (hk : ∀ h, k (S (Le s)) h) : ∀ (n i p : Nat) (g : Bool) (h : H), 3 * (s.length - i) + 1 ≤ n → i ≤ s.length → p ≤ i → ((s.drop p).take (i - p)).any isU = false → Bld g h b (Le (s.take p)) → (Nc W1 k n).a2 s.length (enc s) (.ptr b 0) (Int.ofNat p) (Int.ofNat i) h
 | 0, _, _, _, _, hn, _, _, _, _ => absurd hn (by omega)
 | n + 1, i, p, g, h, hn, hi, hp, ha, hb => by
  refine A4f ?_
  unfold Aeb
  rw [Fh]
  refine Bb (fun e' => ?_) (fun e' => ?_)
  · have e' : i < s.length := Int.ofNat_lt.1 (of_decide_eq_true e')
    have htk : s.take (i + 1) = s.take i ++ [s[i]] := by rw [List.take_add_one, List.getElem?_eq_getElem e']; rfl
    rw [As]
    refine Ch e' ?_
    refine upK ?_
    refine Bb (fun eu => ?_) (fun eu => ?_)
    · rw [A15 eu, Ar]
      have step : ∀ g' h', Bld g' h' b (Le (s.take i)) → (Nc W1 k n).a3 s.length (enc s) (.ptr b 0) (Int.ofNat i) (Int.ofNat (Aps s[i]).toNat) h' := by
       intro g' h' hb'
       obtain ⟨m, rfl⟩ : ∃ m, n = m + 2 := ⟨n - 2, by omega⟩
       refine A4e ?_
       unfold Aea
       refine Av3 hb' (by unfold Le; rw [List.length_map, List.length_take]; omega) fun h2 hb2 => ?_
       rw [Aai (by omega), Ar]
       refine Aty ?_
       unfold Yx
       rw [Aai (by omega), Ar]
       refine Aln hl hne hk m (i + 1) (i + 1) false h2 (by omega) e' (Nat.le_refl _) (by simp) ?_
       rw [htk]; unfold Le at hb2 ⊢; rw [List.map_append]; exact hb2
      rw [Fh]
      refine Bb (fun e2 => ?_) (fun e2 => ?_)
      · have e2 : p < i := Int.ofNat_lt.1 (of_decide_eq_true e2)
        rw [As, As]
        refine Wl hp (by omega) ?_
        refine c61 hb (fun h => ?_) ?_ fun v h' hb' => ?_
        · have := congrArg List.length h
          simp at this; omega
        · unfold Le; rw [List.length_map, List.length_take, List.length_take, List.length_drop]; omega
        · refine step false h' ?_
          rw [Aib hp ha]; exact hb'
      · have e2 : p = i := by
         have : ¬ p < i := fun h => (of_decide_eq_false e2) (Int.ofNat_lt.2 h)
         omega
        subst e2
        exact step g h hb
    · obtain ⟨m, rfl⟩ : ∃ m, n = m + 1 := ⟨n - 1, by omega⟩
      refine Aty ?_
      unfold Yx
      rw [Aai (by omega), Ar]
      refine Aln hl hne hk m (i + 1) p g h (by omega) e' (by omega) ?_ hb
      have e3 : (s.drop p).take (i + 1 - p) = (s.drop p).take (i - p) ++ [s[i]] := by
       rw [show i + 1 - p = (i - p) + 1 by omega, List.take_add_one, List.getElem?_drop, show p + (i - p) = i by omega, List.getElem?_eq_getElem e']; rfl
      rw [e3, List.any_append, ha]; simp [eu]
  · have e' : i = s.length := by
     have : ¬ i < s.length := fun h => (of_decide_eq_false e') (Int.ofNat_lt.2 h)
     omega
    subst e'
    have hlow : Le s = Le (s.take p) ++ (s.drop p).take (s.length - p) := by
     have := Aib hp ha
     rw [List.take_length] at this; exact this
    have hlne : Le s ≠ [] := by unfold Le; simpa using hne
    have hll : (Le s).length ≤ 9223372036854775807 := by unfold Le; rw [List.length_map]; omega
    rw [Fh]
    refine Bb (fun e2 => ?_) (fun e2 => ?_)
    · have e2 : p < s.length := Int.ofNat_lt.1 (of_decide_eq_true e2)
      rw [As]
      refine Wl hp (Nat.le_refl _) ?_
      refine c61 hb (fun h => ?_) ?_ fun v h' hb' => ?_
      · have := congrArg List.length h
        simp at this; omega
      · unfold Le; rw [List.length_map, List.length_take, List.length_take, List.length_drop]; omega
      · rw [← hlow] at hb'
        refine c63 hb' (.inr hlne) hll fun h2 => ?_
        rw [Ce]; exact hk h2
    · have e2 : p = s.length := by
       have : ¬ p < s.length := fun h => (of_decide_eq_false e2) (Int.ofNat_lt.2 h)
       omega
      subst e2
      rw [List.take_length] at hb
      refine c63 hb (.inr hlne) hll fun h2 => ?_
      rw [Ce]; exact hk h2
theorem Bly (s : List UInt8) (hs : ascii s) (hl : s.length ≤ 1099511627776) : Pure PP G h0 161 [S s] (S (Le s)) := by
 refine A9p (n := 4 * s.length + 10) Bj (Bj5 ?_)
 unfold Aed
 refine Avz (e := 3 * s.length + 2) hs hl _ 0 false (by omega) (Nat.zero_le _) ?_
 intro n' hn'
 rw [List.drop_zero, Bool.false_or]
 obtain ⟨m, rfl⟩ : ∃ m, n' = m + 1 := ⟨n' - 1, by omega⟩
 refine A4d ?_
 unfold Ad9
 refine Cd rfl ?_
 refine Bb (fun e => ?_) (fun e => ?_)
 · rw [Bq] at e
   have e : s.any isU = false := by simpa using e
   rw [Aic e]
 · rw [Bq] at e
   have e : s.any isU = true := by simpa using e
   have hne : s ≠ [] := fun h => by subst h; cases e
   have hpos : 1 ≤ s.length := by
    cases s with
    | nil => exact absurd rfl hne
    | cons _ _ => simp
   refine Ec ?_
   refine Blo hpos hl fun h' hb' => ?_
   refine Aln hl hne (fun _ => rfl) m 0 0 true h' (by omega) (Nat.zero_le _) (Nat.le_refl _) (by simp) ?_
   exact hb'
end Go.Den
namespace Go.Den
open Go.RowKit
set_option maxRecDepth 100000
theorem Blx (L : List UInt8) (x : UInt8) (hx : x.toNat < 128) : Pure PP G h0 162 [S L, .int .i32 (Int.ofNat x.toNat)] (.int .i64 (Xj L x)) := by
 refine A9o (n := 1) Bj (Bj4 ?_)
 unfold Ad8
 refine Sf ?_
 have e1 : (Fe (Int.ofNat 0) (Int.ofNat x.toNat) && Cu (Int.ofNat x.toNat) (Int.ofNat 128)) = true := by
  rw [ile, ilt, decide_eq_true (Nat.zero_le _), decide_eq_true hx]; rfl
 refine Cd e1 ?_
 have e2 : wrap .u8 (Int.ofNat x.toNat) = Int.ofNat x.toNat := by
  rw [Fx]
  simp [IntKind.wrap, IntKind.bits, IntKind.signed]
  omega
 rw [e2, Ar]
 refine Dn (A8a L x) ?_
 rw [Au]
def Apq : List UInt8 := [48, 49, 50, 51, 52, 53, 54, 55, 56, 57, 97, 98, 99, 100, 101, 102]
def Ak9 (c : UInt8) : Nat := if c.toNat ≤ 57 then c.toNat - 48 else c.toNat - 87
theorem Azt : ∀ x ∈ Apq, Xj Ge x = Int.ofNat (Ak9 x) := by
 intro x hx
 simp only [Apq, List.mem_cons, List.not_mem_nil, or_false] at hx
 rcases hx with rfl | rfl | rfl | rfl | rfl | rfl | rfl | rfl | rfl | rfl | rfl | rfl | rfl | rfl | rfl | rfl <;> kernel_rfl
theorem A7x : ∀ x ∈ Apq, Ak9 x ≤ 15 := by decide
theorem Ayz : ∀ x ∈ Ge, Aps x ∈ Apq := by decide
theorem Atl : ∀ x ∈ Apq, x.toNat < 128 := by decide
theorem Aze : ∀ x ∈ Ge, x.toNat < 128 := by decide
theorem Ayo : ∀ x ∈ Zr, x ∈ Ge := by decide
def Bag (B v : Nat) (ds : List UInt8) : Nat := ds.foldl (fun v c => (v * B + Ak9 c) &&& 4095) v
def Qg : List UInt8 := [39, 34, 63, 92, 97, 98, 102, 110, 114, 116, 118]
def Ak8 : List UInt8 := [39, 34, 63, 92, 7, 8, 12, 10, 13, 9, 11]
def Ts (x : UInt8) : Option UInt8 :=
 if x = 39 then some 39 else if x = 34 then some 34 else if x = 63 then some 63 else if x = 92 then some 92 else if x = 97 then some 7 else if x = 98 then some 8
 else if x = 102 then some 12 else if x = 110 then some 10 else if x = 114 then some 13 else if x = 116 then some 9 else if x = 118 then some 11 else none
theorem Ax0 : ∀ x ∈ Qg, ∃ i y, Xj Qg x = Int.ofNat i ∧ Ts x = some y ∧ ∃ h : i < Ak8.length, Ak8[i] = y := by
 intro x hx
 simp only [Qg, List.mem_cons, List.not_mem_nil, or_false] at hx
 rcases hx with rfl | rfl | rfl | rfl | rfl | rfl | rfl | rfl | rfl | rfl | rfl
 · exact ⟨0, _, by kernel_rfl, rfl, by decide, rfl⟩
 · exact ⟨1, _, by kernel_rfl, rfl, by decide, rfl⟩
 · exact ⟨2, _, by kernel_rfl, rfl, by decide, rfl⟩
 · exact ⟨3, _, by kernel_rfl, rfl, by decide, rfl⟩
 · exact ⟨4, _, by kernel_rfl, rfl, by decide, rfl⟩
 · exact ⟨5, _, by kernel_rfl, rfl, by decide, rfl⟩
 · exact ⟨6, _, by kernel_rfl, rfl, by decide, rfl⟩
 · exact ⟨7, _, by kernel_rfl, rfl, by decide, rfl⟩
 · exact ⟨8, _, by kernel_rfl, rfl, by decide, rfl⟩
 · exact ⟨9, _, by kernel_rfl, rfl, by decide, rfl⟩
 · exact ⟨10, _, by kernel_rfl, rfl, by decide, rfl⟩
theorem Arh {x : UInt8} (h : x ∉ Qg) : Ts x = none := by
 simp [Qg] at h
 obtain ⟨h1, h2, h3, h4, h5, h6, h7, h8, h9, h10, h11⟩ := h
 unfold Ts
 rw [if_neg h1, if_neg h2, if_neg h3, if_neg h4, if_neg h5, if_neg h6, if_neg h7, if_neg h8, if_neg h9, if_neg h10, if_neg h11]
def Zs (s : List UInt8) (n f B : Nat) : UInt8 × Nat := if n ≤ f then (0, 0) else (UInt8.ofNat (Bag B 0 (Le ((s.drop f).take (n - f)))), n)
def En (s : List UInt8) : UInt8 × Nat := match s with
 | [] => (0, 0)
 | c :: r => match Ts c with
  | some y => (y, 1)
  | none => if c = 120 then Zs (c :: r) (1 + Cg r Ge) 1 16 else Zs (c :: r) (min (Cg (c :: r) Zr) 3) 0 8
theorem A3z {a b : Nat} {K : Int → Prop} (ha : a ≤ 9223372036854775807) (hb : b ≤ 9223372036854775807) (hk : K (Int.ofNat (a &&& b))) : Abs Nat.land .i64 (Int.ofNat a) (Int.ofNat b) K := by
 show (Bool.rec False (fN (Nat.land a b) (fun n => K (.ofNat n))) (Ai (Nat.ble a (intMax .i64)) (Nat.ble b (intMax .i64))) : Prop)
 rw [Nat.ble_eq_true_of_le (show a ≤ intMax .i64 from ha), Nat.ble_eq_true_of_le (show b ≤ intMax .i64 from hb)]
 exact hk
theorem A3l {h : H} {p : P} {s : List UInt8} {i : Nat} (ha : h.at p = .iter s.length (enc s) i) : Sv (.ptr p 0) true h = Ni p s.length (enc s) i h := by
 unfold Sv
 simp only [ha]
 rfl
theorem Biy (l c : Nat) (h : H) : Nv env 9 (.str l c) h = some (.ptr h.next 0, h.new (.iter l c 0)) := by kernel_rfl
theorem wrap_u8 (n : Nat) : wrap .u8 (Int.ofNat n) = Int.ofNat (UInt8.ofNat n).toNat := by
 rw [Fx]
 have : (UInt8.ofNat n).toNat = n % 256 := by simp
 rw [this]
 simp [IntKind.wrap, IntKind.bits, IntKind.signed]
theorem Av2 {ds : List UInt8} {B n5 : Nat} {p : P} {k : KV} (hds : ∀ x ∈ ds, x ∈ Apq) (hB : B ≤ 16) : ∀ (n i v : Nat) (h : H), ds.length - i < n → i ≤ ds.length → v ≤ 4095 → h.at p = .iter ds.length (enc ds) i →
 (∀ h', k (.tuple [ub (UInt8.ofNat (Bag B v (ds.drop i))), .int .i64 (Int.ofNat n5)]) h') → (Zl W1 k n).a1 (Int.ofNat n5) (Int.ofNat B) (Int.ofNat v) (.ptr p 0) h
 | 0, _, _, _, hn, _, _, _, _ => absurd hn (Nat.not_lt_zero _)
 | n + 1, i, v, h, hn, hi, hv, ha, hk => by
  refine A4q ?_
  unfold Afa
  rw [A3l ha]
  by_cases e : i < ds.length
  · have hd : ds.drop i = ds[i] :: ds.drop (i + 1) := List.drop_eq_getElem_cons e
    have hx := hds _ (List.getElem_mem e)
    have hx1 := Atl _ hx
    have e1 : Ni p ds.length (enc ds) i h = some (.tuple [.bool true, .int .i64 (.ofNat i), .int .i32 (.ofNat (ds[i]).toNat)], h.put p (.iter ds.length (enc ds) (Nat.add i 1))) := by
     unfold Ni
     rw [Nat.ble_eq_true_of_le (show Nat.add i 1 ≤ ds.length from e), Aod e]
     have : Nat.ble 128 (ds[i]).toNat = false := by
      cases hb : Nat.ble 128 (ds[i]).toNat with
      | false => rfl
      | true => exact absurd (Nat.le_of_ble_eq_true hb) (by omega)
     rw [this]
    rw [e1, Ae, Ed, Bv]
    refine Cd rfl ?_
    rw [A05, Au]
    have hdl := A7x _ hx
    have hm : v * B ≤ 4095 * 16 := Nat.mul_le_mul hv hB
    have w1 : wrap .i64 (Int.ofNat v * Int.ofNat B) = Int.ofNat (v * B) := by
     rw [show Int.ofNat v * Int.ofNat B = Int.ofNat (v * B) from rfl]; exact Cm (by omega)
    rw [w1, Ar]
    refine Dn (Blx Ge ds[i] hx1) ?_
    rw [Au, Azt _ hx]
    have w2 : wrap .i64 (Bp (Int.ofNat (v * B)) (Int.ofNat (Ak9 ds[i]))) = Int.ofNat (v * B + Ak9 ds[i]) := by
     rw [Gt, show Int.ofNat (v * B) + Int.ofNat (Ak9 ds[i]) = Int.ofNat (v * B + Ak9 ds[i]) from rfl]; exact Cm (by omega)
    rw [w2, Ar]
    refine A3z (by omega) (by omega) ?_
    refine Av2 hds hB n (i + 1) _ _ (by omega) e Nat.and_le_right (Bn _ _ _) ?_
    rw [hd] at hk
    exact hk
  · have hd : ds.drop i = [] := by rw [List.drop_eq_nil_iff]; omega
    have e1 : Ni p ds.length (enc ds) i h = some (.tuple [.bool false], h) := by
     unfold Ni
     have : Nat.ble (Nat.add i 1) ds.length = false := by
      cases hb : Nat.ble (Nat.add i 1) ds.length with
      | false => rfl
      | true => exact absurd (Nat.le_of_ble_eq_true hb) (by show ¬ i + 1 ≤ _; omega)
     rw [this]
    rw [e1, Ae, Ed, Bv]
    refine Bl rfl ?_
    rw [wrap_u8, Ar]
    rw [hd] at hk
    exact hk h
theorem Av1 {s : List UInt8} {n f B m : Nat} {k : KV} (hl : s.length ≤ 1099511627776) (hn : n ≤ s.length) (hd : ∀ x ∈ (s.drop f).take (n - f), x ∈ Ge) (hB : B ≤ 16) (hm : s.length + 2 ≤ m)
 (hk : ∀ h', k (.tuple [ub (Zs s n f B).1, .int .i64 (Int.ofNat (Zs s n f B).2)]) h') : (Zl W1 k (m + 1)).a2 s.length (enc s) (Int.ofNat n) (Int.ofNat B) (Int.ofNat f) h0 := by
 refine A4p ?_
 unfold Ae9
 rw [Ja]
 unfold Zs at hk
 refine Bb (fun e => ?_) (fun e => ?_)
 · have e : n ≤ f := Int.ofNat_le.1 (of_decide_eq_true e)
   rw [if_pos e] at hk; exact hk _
 · have e : ¬ n ≤ f := fun h => (of_decide_eq_false e) (Int.ofNat_le.2 h)
   rw [if_neg e] at hk
   rw [As, As]
   refine Wl (by omega) hn ?_
   have ll : ((s.drop f).take (n - f)).length ≤ s.length := by rw [List.length_take, List.length_drop]; omega
   refine Dn (Bly _ (fun x hx => Aze x (hd x hx)) (by omega)) ?_
   rw [Ce, Biy, Ae]
   have l2 : (Le ((s.drop f).take (n - f))).length ≤ s.length := by unfold Le; rw [List.length_map]; exact ll
   refine Av2 (fun x hx => ?_) hB _ 0 0 _ (by omega) (Nat.zero_le _) (Nat.zero_le _) (Ax _ _) ?_
   · obtain ⟨y, hy, rfl⟩ := List.mem_map.1 hx
     exact Ayz y (hd y hy)
   · rw [List.drop_zero]; exact hk
theorem Aq9 (s set : List UInt8) : s.take (Cg s set) = s.takeWhile (· ∈ set) := (List.prefix_iff_eq_take.1 (List.takeWhile_prefix _)).symm
theorem Afd {s set : List UInt8} {x : UInt8} {n : Nat} (hn : n ≤ Cg s set) (hx : x ∈ s.take n) : x ∈ set := by
 have h1 : x ∈ s.take (Cg s set) := List.take_subset_take_left _ hn hx
 rw [Aq9] at h1
 have := List.all_eq_true.1 List.all_takeWhile x h1
 simpa using this
theorem Bja (n : Nat) (h : H) : Aq env .min [3, 3] [.int .i64 (Int.ofNat n), .int .i64 (Int.ofNat 3)] h = some (.int .i64 (Int.ofNat (min n 3)), h) := by
 have e : Aq env .min [3, 3] [.int .i64 (Int.ofNat n), .int .i64 (Int.ofNat 3)] h = some (.int .i64 (Bool.rec (Int.ofNat n) (Int.ofNat 3) (Cu (Int.ofNat 3) (Int.ofNat n))), h) := by kernel_rfl
 rw [e, ilt]
 by_cases hc : 3 < n
 · rw [decide_eq_true hc, Nat.min_eq_right (by omega)]
 · rw [decide_eq_false hc, Nat.min_eq_left (by omega)]
theorem Bga (s : List UInt8) (hl : s.length ≤ 1099511627776) : Pure PP G h0 108 [S s] (.tuple [ub (En s).1, .int .i64 (Int.ofNat (En s).2)]) := by
 refine Bae (n := s.length + 10) Bj (Bku ?_)
 unfold Afb
 cases s with
 | nil => exact Cd rfl rfl
 | cons c r =>
  refine Bl (Kr c r) ?_
  refine Ch (s := c :: r) (Nat.zero_lt_succ _) ?_
  refine Dn (A8a Qg c) ?_
  rw [Au, Ja]
  by_cases hin : c ∈ Qg
  · obtain ⟨i, y, e1, e2, e3, e4⟩ := Ax0 c hin
    have ee : En (c :: r) = (y, 1) := by show (match Ts c with | some y => (y, 1) | none => _) = _; rw [e2]
    show cnd (decide (Int.ofNat 0 ≤ Xj Qg c)) _ _
    rw [e1]
    refine Cd (decide_eq_true (Int.ofNat_le.2 (Nat.zero_le _))) ?_
    rw [As]
    refine Ch (s := Ak8) e3 ?_
    show AV.tuple [_, _] = AV.tuple [_, _]
    rw [ee, e4]; rfl
  · have hneg : Xj Qg c < 0 := (Zm Qg c).2 hin
    have es := Arh hin
    refine Bl (decide_eq_false fun h => by have : (0 : Int) ≤ Xj Qg c := h; omega) ?_
    refine Dn (Aqi As6 (by decide) (c :: r) (by omega)) ?_
    rw [Au, Bja, Ae, Au]
    refine Ch (s := c :: r) (Nat.zero_lt_succ _) ?_
    rw [toNat_eq _ 120 (by decide)]
    have hlr : r.length ≤ 1099511627776 := by simp at hl; omega
    refine Bb (fun e => ?_) (fun e => ?_)
    · have e : c = 120 := of_decide_eq_true e
      refine Fq (s := c :: r) (Nat.le_add_left 1 _) ?_
      refine Dn (Aqi Ak1 (by decide) r (by omega)) ?_
      have hr := Lh r Ge
      have w1 : wrap .i64 (Bp (Int.ofNat 1) (Int.ofNat (Cg r Ge))) = Int.ofNat (1 + Cg r Ge) := by
       rw [Gt, show Int.ofNat 1 + Int.ofNat (Cg r Ge) = Int.ofNat (1 + Cg r Ge) from rfl]; exact Cm (by omega)
      rw [Au, w1, Ar]
      refine Av1 (s := c :: r) (n := 1 + Cg r Ge) (f := 1) (B := 16) hl (by simp; omega) (fun x hx => ?_) (Nat.le_refl _) (by omega) fun h' => ?_
      · rw [List.drop_succ_cons, List.drop_zero, show 1 + Cg r Ge - 1 = Cg r Ge by omega] at hx
        exact Afd (Nat.le_refl _) hx
      · have ee : En (c :: r) = Zs (c :: r) (1 + Cg r Ge) 1 16 := by
         show (match Ts c with | some y => (y, 1) | none => _) = _
         rw [es]; exact if_pos e
        rw [ee]
    · have e : ¬ c = 120 := of_decide_eq_false e
      have hr := Lh (c :: r) Zr
      refine Av1 (s := c :: r) (n := min (Cg (c :: r) Zr) 3) (f := 0) (B := 8) hl (by omega) (fun x hx => ?_) (by decide) (by omega) fun h' => ?_
      · rw [List.drop_zero, Nat.sub_zero] at hx
        exact Ayo x (Afd (Nat.min_le_left _ _) hx)
      · have ee : En (c :: r) = Zs (c :: r) (min (Cg (c :: r) Zr) 3) 0 8 := by
         show (match Ts c with | some y => (y, 1) | none => _) = _
         rw [es]; exact if_neg e
        rw [ee]
theorem Aok (s : List UInt8) : (En s).2 ≤ s.length := by
 cases s with
 | nil => exact Nat.le_refl _
 | cons c r =>
  show (match Ts c with | some y => (y, 1) | none => if c = 120 then Zs (c :: r) (1 + Cg r Ge) 1 16 else Zs (c :: r) (min (Cg (c :: r) Zr) 3) 0 8 : UInt8 × Nat).2 ≤ _
  have key : ∀ n f B, n ≤ (c :: r).length → (Zs (c :: r) n f B).2 ≤ (c :: r).length := by
   intro n f B hn
   unfold Zs
   split
   · exact Nat.zero_le _
   · exact hn
  cases Ts c with
  | some y => exact Nat.le_add_left 1 _
  | none =>
   have h1 := Lh r Ge
   have h2 := Lh (c :: r) Zr
   show (if c = 120 then _ else _ : UInt8 × Nat).2 ≤ _
   split
   · exact key _ _ _ (by simp; omega)
   · exact key _ _ _ (by omega)
def Nd : List UInt8 → Bool
 | [] => false
 | c :: _ => decide (c = 34) || decide (c = 39)
def Oj : List (List UInt8) := [[], [76], [117], [85], [117, 56]]
def Db : List (List UInt8) → List UInt8 → List UInt8 × Bool
 | [], _ => ([], false)
 | s :: ss, text => if (decide (text.take s.length = s) && Nd (text.drop s.length)) then (s, true) else Db ss text
def Bf (text : List UInt8) : List UInt8 × Bool := Db Oj text
def T5b : Tm := Option.rec .e (fun t => t) (Ut (Sm 1) 5 [(0, .str 0 0), (1, .str 1 76), (2, .str 1 117), (3, .str 1 85), (4, .str 2 14453)] (Ah (Je [.str 0 0] 5) 0 .e))
theorem b5b (h : H) : An env 44 (fun e ei => Ak 5 [(0, (.str 0 0)), (1, (.str 1 76)), (2, (.str 1 117)), (3, (.str 1 85)), (4, (.str 2 14453))] h e ei) = some (.slice h.next 0 5 1 true, h.new (.row T5b 5 0 9 true)) := by kernel_rfl
theorem A3e {h : H} {b : P} (ha : h.at b = .row T5b 5 0 9 true) {r : Nat} (hr : r < 5) {K : Nat → Nat → Prop} (hk : ∀ t rest, Oj.drop r = t :: rest → rest = Oj.drop (r + 1) → K t.length (enc t)) : Cc 1 r (.slice b 0 5 1 true) fun v => ld1 v h fun v => asS v K := by
 have key : ∀ t, Oj.drop r = t :: Oj.drop (r + 1) → Az T5b r = S t → Cc 1 r (.slice b 0 5 1 true) fun v => ld1 v h fun v => asS v K := by
  intro t ht e
  have hb : Cc 1 r (.slice b 0 5 1 true) (fun v => ld1 v h fun v => asS v K) = ld1 (.ptr b r) h fun v => asS v K := by
   match r, hr with
   | 0, _ | 1, _ | 2, _ | 3, _ | 4, _ => rfl
  rw [hb]
  refine Ct ha hr ?_
  rw [e]
  exact hk t _ ht rfl
 match r, hr with
 | 0, _ => exact key [] rfl (by kernel_rfl)
 | 1, _ => exact key [76] rfl (by kernel_rfl)
 | 2, _ => exact key [117] rfl (by kernel_rfl)
 | 3, _ => exact key [85] rfl (by kernel_rfl)
 | 4, _ => exact key [117, 56] rfl (by kernel_rfl)
theorem Bf7 (s t : List UInt8) : Pure PP G h0 163 [S s, S t] (if s.take t.length = t then .tuple [S (s.drop t.length), .bool true] else .tuple [S s, .bool false]) := by
 refine A9n (n := 1) Bj (Bj3 ?_)
 unfold Ad7
 refine Dn (Bf5 s t) ?_
 rw [Bv, Bq]
 refine Bb (fun e => ?_) (fun e => ?_)
 · have e : ¬ s.take t.length = t := by simpa using e
   rw [if_neg e]
 · have e : s.take t.length = t := by simpa using e
   have : t.length ≤ s.length := by have := congrArg List.length e; simp at this; omega
   refine Fq this ?_
   rw [if_pos e]
theorem Bl5 (s t : List UInt8) : Pure PP G h0 109 [S s, S t] (if s.take t.length = t then .tuple [S (s.drop t.length), .bool true] else .tuple [S s, .bool false]) := by
 refine Bad (n := 1) Bj (Bkt ?_)
 unfold Ae8
 by_cases e : s.take t.length = t
 · have h1 := Bf7 s t
   rw [if_pos e] at h1 ⊢
   refine Dn h1 ?_
   rw [Ed, Ce, Ek, Bv]
 · have h1 := Bf7 s t
   rw [if_neg e] at h1 ⊢
   refine Dn h1 ?_
   rw [Ed, Ce, Ek, Bv]
theorem A1i {s : List UInt8} {h : H} {b : P} (ha : h.at b = .row T5b 5 0 9 true) {k : KV} : ∀ (n i : Nat), 5 - i < n → i ≤ 5 → k (.tuple [S (Db (Oj.drop i) s).1, .bool (Db (Oj.drop i) s).2]) h → (r60 W1 k n).a1 s.length (enc s) (.slice b 0 5 1 true) (Int.ofNat 5) (Int.ofNat i) h
 | 0, _, hn, _, _ => absurd hn (Nat.not_lt_zero _)
 | n + 1, i, hn, hi, hk => by
  refine Bdc ?_
  unfold Amx
  rw [Fh]
  refine Bb (fun e => ?_) (fun e => ?_)
  · have e : i < 5 := Int.ofNat_lt.1 (of_decide_eq_true e)
    rw [As]
    refine A3e ha e fun t rest h1 h2 => ?_
    rw [h1] at hk
    have rec_ : (decide (s.take t.length = t) && Nd (s.drop t.length)) = false → fI (wrap .i64 (Bp (Int.ofNat i) (Int.ofNat 1))) fun n27 => (r60 W1 k n).a1 s.length (enc s) (.slice b 0 5 1 true) (Int.ofNat 5) n27 h := by
     intro hc
     rw [Aai (by omega), Ar]
     refine A1i ha n (i + 1) (by omega) e ?_
     rw [← h2]
     have : Db (t :: rest) s = Db rest s := if_neg (by rw [hc]; simp)
     rw [this] at hk; exact hk
    refine Dn (Bl5 s t) ?_ rfl (by split <;> rfl)
    by_cases ht : s.take t.length = t
    · rw [if_pos ht, Ed, Ce, Ek, Bv]
      refine Sf ?_
      rw [Fk, Bq]
      cases hr : s.drop t.length with
      | nil =>
       refine Gq (fun e => ?_) (fun _ => ?_)
       · simp at e
       · exact Bl rfl (rec_ (by rw [hr]; simp [Nd]))
      | cons c r =>
       refine Gq (fun _ => ?_) (fun e => ?_)
       · refine Ch (s := c :: r) (Nat.zero_lt_succ _) ?_
         refine Ou (b := decide (c = 39)) (fun k' hk' => ?_) ?_
         · refine Ch (s := c :: r) (Nat.zero_lt_succ _) ?_
           rw [toNat_eq _ 39 (by decide)]; exact hk'
         · rw [toNat_eq _ 34 (by decide)]
           refine Bb (fun e => ?_) (fun e => ?_)
           · have : Db (t :: rest) s = (t, true) := if_pos (by rw [hr]; rw [decide_eq_true ht]; exact e)
             rw [this] at hk; exact hk
           · refine rec_ ?_
             rw [hr, decide_eq_true ht]; exact e
       · simp at e
    · rw [if_neg ht, Ed, Ce, Ek, Bv]
      refine Gq (fun e => by cases e) (fun _ => ?_)
      refine Gq (fun e => by cases e) (fun _ => ?_)
      exact Bl rfl (rec_ (by rw [decide_eq_false ht]; rfl))
  · have e : i = 5 := by
     have : ¬ i < 5 := fun h => (of_decide_eq_false e) (Int.ofNat_lt.2 h)
     omega
    subst e
    exact hk
theorem c60 (s : List UInt8) : Pure PP G h0 60 [S s] (.tuple [S (Bf s).1, .bool (Bf s).2]) := by
 refine w60 (n := 10) Bj (g60 ?_)
 unfold Amy
 rw [b5b, Ae]
 show (r60 W1 _ 9).a1 s.length (enc s) (.slice h0.next 0 5 1 true) (Int.ofNat 5) (Int.ofNat 0) _
 exact A1i (Ax _ _) 9 0 (by decide) (by decide) rfl
end Go.Den
namespace Go.Den
open Go.RowKit
set_option maxRecDepth 100000
def Gp (q : UInt8) : Nat → List UInt8 → Option (List UInt8)
 | 0, _ => none
 | _ + 1, [] => some []
 | n + 1, c :: r => if c = q then none else if c = 92 then (if (En r).2 = 0 then none else (Gp q n (r.drop (En r).2)).map ((En r).1 :: ·)) else (Gp q n r).map (c :: ·)
theorem Lb {q : UInt8} : ∀ (n m : Nat) (s : List UInt8), s.length < n → s.length < m → Gp q n s = Gp q m s
 | 0, _, _, h, _ => absurd h (Nat.not_lt_zero _)
 | _, 0, _, _, h => absurd h (Nat.not_lt_zero _)
 | n + 1, m + 1, [], _, _ => rfl
 | n + 1, m + 1, c :: r, h1, h2 => by
  have h1 : r.length < n := Nat.lt_of_succ_lt_succ h1
  have h2 : r.length < m := Nat.lt_of_succ_lt_succ h2
  show (if c = q then none else if c = 92 then (if (En r).2 = 0 then none else (Gp q n (r.drop (En r).2)).map ((En r).1 :: ·)) else (Gp q n r).map (c :: ·)) = (if c = q then none else if c = 92 then (if (En r).2 = 0 then none else (Gp q m (r.drop (En r).2)).map ((En r).1 :: ·)) else (Gp q m r).map (c :: ·))
  rw [Lb n m r h1 h2, Lb n m (r.drop (En r).2) (by rw [List.length_drop]; omega) (by rw [List.length_drop]; omega)]
def Aqk (o : Option (List UInt8)) : AV := match o with
 | some l => .tuple [S l, .bool true]
 | none => .tuple [S [], .bool false]
def Aff (t : List UInt8) : Option (List UInt8) := match t with
 | [] => none
 | q :: r => if r = [] then none else if r.getLast? = some q then Gp q (r.length + 1) r.dropLast else none
def Lf (s : List UInt8) : Option (List UInt8) := if (Bf s).2 = true then Aff (s.drop (Bf s).1.length) else none
theorem Pw (s : List UInt8) : ∀ ps, (Db ps s).2 = true → s.take (Db ps s).1.length = (Db ps s).1 ∧ Nd (s.drop (Db ps s).1.length) = true
 | [], h => by cases h
 | p :: ps, h => by
  by_cases e : (decide (s.take p.length = p) && Nd (s.drop p.length)) = true
  · have e1 : Db (p :: ps) s = (p, true) := if_pos e
    rw [e1]
    simpa using e
  · have e1 : Db (p :: ps) s = Db ps s := if_neg e
    rw [e1] at h ⊢
    exact Pw s ps h
theorem Wz (s : List UInt8) : ∀ ps, (Db ps s).2 = false → (Db ps s).1 = []
 | [], _ => rfl
 | p :: ps, h => by
  by_cases e : (decide (s.take p.length = p) && Nd (s.drop p.length)) = true
  · have e1 : Db (p :: ps) s = (p, true) := if_pos e
    rw [e1] at h; cases h
  · have e1 : Db (p :: ps) s = Db ps s := if_neg e
    rw [e1] at h ⊢
    exact Wz s ps h
theorem Wy (s : List UInt8) : (Bf s).1.length ≤ s.length := by
 cases h : (Bf s).2 with
 | true =>
  have := congrArg List.length (Pw s Oj h).1
  rw [List.length_take] at this
  show (Db Oj s).1.length ≤ s.length
  omega
 | false =>
  have : (Bf s).1 = [] := Wz s Oj h
  rw [this]; exact Nat.zero_le _
theorem A03 {n : Nat} (h1 : 1 ≤ n) (h2 : n ≤ 9223372036854775807) : wrap .i64 (Jh (Int.ofNat n) (Int.ofNat 1)) = Int.ofNat (n - 1) := by
 rw [Ul, show Int.ofNat n - Int.ofNat 1 = Int.ofNat (n - 1) by show (n : Int) - ((1 : Nat) : Int) = ((n - 1 : Nat) : Int); omega]
 exact Cm (by omega)
theorem Aos {q : UInt8} {r : List UInt8} {b : P} {k : KV} : ∀ (n : Nat) (s acc : List UInt8) (h : H), s.length < n → s.length + acc.length ≤ 549755813888 → Bld false h b acc →
 (∀ h', k (Aqk ((Gp q n s).map (acc ++ ·))) h') → (r59 W1 k n).a1 (q :: r).length (enc (q :: r)) (.ptr b 0) s.length (enc s) h
 | 0, _, _, _, hn, _, _, _ => absurd hn (Nat.not_lt_zero _)
 | n + 1, [], acc, h, hn, hl, hb, hk => by
  refine A01 ?_
  unfold Ahj
  refine Cd rfl ?_
  refine c63 hb (.inl rfl) (by simp at hl; omega) fun h' => ?_
  rw [Ce]
  have := hk h'
  rw [show (Gp q (n + 1) []).map (acc ++ ·) = some acc by show some (acc ++ []) = _; rw [List.append_nil]] at this
  exact this
 | n + 1, c :: s, acc, h, hn, hl, hb, hk => by
  have hn : s.length < n := Nat.lt_of_succ_lt_succ hn
  have hl' : s.length + 1 + acc.length ≤ 549755813888 := hl
  refine A01 ?_
  unfold Ahj
  refine Bl (Kr c s) ?_
  refine Ch (s := c :: s) (Nat.zero_lt_succ _) ?_
  refine Ch (s := q :: r) (Nat.zero_lt_succ _) ?_
  rw [List.getElem_cons_zero, List.getElem_cons_zero, Ov]
  have eb : Gp q (n + 1) (c :: s) = if c = q then none else if c = 92 then (if (En s).2 = 0 then none else (Gp q n (s.drop (En s).2)).map ((En s).1 :: ·)) else (Gp q n s).map (c :: ·) := rfl
  rw [eb] at hk
  have mm : ∀ (x : UInt8) (o : Option (List UInt8)), (o.map (x :: ·)).map (acc ++ ·) = o.map ((acc ++ [x]) ++ ·) := by
   intro x o
   cases o with
   | none => rfl
   | some l => simp
  refine Bb (fun e => ?_) (fun e => ?_)
  · have e : c = q := of_decide_eq_true e
    rw [if_pos e] at hk
    obtain ⟨n', rfl⟩ : ∃ n', n = n' + 1 := ⟨n - 1, by omega⟩
    refine A00 ?_
    unfold Ahi
    exact hk h
  · have e : ¬ c = q := of_decide_eq_false e
    rw [if_neg e] at hk
    refine Ch (s := c :: s) (Nat.zero_lt_succ _) ?_
    rw [List.getElem_cons_zero, toNat_eq _ 92 (by decide), Bq]
    refine Bb (fun e2 => ?_) (fun e2 => ?_)
    · have e2 : ¬ c = 92 := by simpa using e2
      rw [if_neg e2] at hk
      refine Ch (s := c :: s) (Nat.zero_lt_succ _) ?_
      refine Av3 (x := c) hb (by omega) fun h' hb' => ?_
      refine Fq (s := c :: s) (Nat.le_add_left 1 _) ?_
      refine Aos n s (acc ++ [c]) h' hn (by rw [List.length_append, List.length_singleton]; omega) hb' ?_
      intro h2
      have := hk h2
      rw [mm] at this; exact this
    · have e2 : c = 92 := by simpa using e2
      rw [if_pos e2] at hk
      refine Fq (s := c :: s) (Nat.le_add_left 1 _) ?_
      refine Dn (Bga s (by omega)) ?_
      have hle := Aok s
      rw [Ed]
      show asI .u8 (.int .u8 (Int.ofNat (En s).1.toNat)) _
      rw [Au, Ek, Au, ilt]
      refine Bb (fun e3 => ?_) (fun e3 => ?_)
      · have e3 : 0 < (En s).2 := of_decide_eq_true e3
        rw [if_neg (by omega)] at hk
        refine Av3 hb (by omega) fun h' hb' => ?_
        have w1 : wrap .i64 (Bp (Int.ofNat 1) (Int.ofNat (En s).2)) = Int.ofNat (1 + (En s).2) := by
         rw [Gt, show Int.ofNat 1 + Int.ofNat (En s).2 = Int.ofNat (1 + (En s).2) from rfl]; exact Cm (by omega)
        rw [w1, Ar, As]
        refine Fq (s := c :: s) (by simp; omega) ?_
        have hd : (c :: s).drop (1 + (En s).2) = s.drop (En s).2 := by rw [Nat.add_comm, List.drop_succ_cons]
        rw [hd]
        refine Aos n (s.drop (En s).2) (acc ++ [(En s).1]) h' (by rw [List.length_drop]; omega) (by rw [List.length_append, List.length_singleton, List.length_drop]; omega) hb' ?_
        intro h2
        have := hk h2
        rw [mm] at this; exact this
      · have e3 : ¬ 0 < (En s).2 := of_decide_eq_false e3
        rw [if_pos (by omega)] at hk
        exact hk h
theorem Ais {q : UInt8} {r : List UInt8} (hr : r ≠ []) (h : (q :: r).length - 1 < (q :: r).length) : r.getLast? = some ((q :: r)[(q :: r).length - 1]) := by
 cases r with
 | nil => exact absurd rfl hr
 | cons c r =>
  rw [List.getLast?_eq_getElem?]
  simp
theorem c59 (s : List UInt8) (hl : s.length ≤ 549755813888) : Pure PP G h0 59 [S s] (Aqk (Lf s)) := by
 refine w59 (n := s.length + 10) Bj (g59 ?_)
 unfold Am0
 refine Ec ?_
 refine Dn (c60 s) ?_
 rw [Ed, Ce, Ek, Bv]
 refine Fq (Wy s) ?_
 have hlt : (s.drop (Bf s).1.length).length ≤ s.length := by rw [List.length_drop]; omega
 have bad : ∀ h, Lf s = none → (r59 W1 (fun v _ => v = Aqk (Lf s)) (s.length + 9)).a2 h := by
  intro h e
  refine A00 ?_
  unfold Ahi
  show AV.tuple _ = _
  rw [e]; rfl
 refine Jg ?_
 rw [Bq, ilt]
 refine Ua (fun e => ?_) (fun e => ?_)
 · rw [Bool.or_eq_false_iff] at e
   obtain ⟨e1, e2⟩ := e
   have e1 : (Bf s).2 = true := by simpa using e1
   have e2 : ¬ (s.drop (Bf s).1.length).length < 2 := of_decide_eq_false e2
   have eb : Lf s = Aff (s.drop (Bf s).1.length) := if_pos e1
   revert hlt e2 eb
   generalize s.drop (Bf s).1.length = t
   intro hlt e2 eb
   match t, hlt, e2, eb with
   | [], _, e2, _ => exact absurd (by decide) e2
   | [_], _, e2, _ => exact absurd (show 1 < 2 by decide) e2
   | q :: c :: r, hlt, _, eb =>
    have hne : (c :: r) ≠ [] := by simp
    have h1 : 1 ≤ (q :: c :: r).length := Nat.le_add_left 1 _
    have h2 : (q :: c :: r).length - 1 < (q :: c :: r).length := by omega
    rw [A03 h1 (by omega), Ar, As]
    refine Ch h2 ?_
    refine Ch (s := q :: c :: r) (Nat.zero_lt_succ _) ?_
    rw [List.getElem_cons_zero, Ov, Bq]
    have hlast := Ais hne h2
    have eb : Lf s = if (c :: r) = [] then none else if (c :: r).getLast? = some q then Gp q ((c :: r).length + 1) (c :: r).dropLast else none := eb
    rw [if_neg hne, hlast] at eb
    refine Bb (fun e => ?_) (fun e => ?_)
    · have e : ¬ (q :: c :: r)[(q :: c :: r).length - 1] = q := by simpa using e
      rw [if_neg (fun h => e (Option.some.inj h))] at eb
      exact bad _ eb
    · have e : (q :: c :: r)[(q :: c :: r).length - 1] = q := by simpa using e
      rw [if_pos (congrArg some e)] at eb
      rw [Ar, As]
      refine Wl (lo := 1) (hi := (q :: c :: r).length - 1) (by simp) (by omega) ?_
      have hcut : ((q :: c :: r).drop 1).take ((q :: c :: r).length - 1 - 1) = (c :: r).dropLast := by
       rw [List.drop_succ_cons, List.drop_zero, List.dropLast_eq_take]; rfl
      rw [hcut]
      have hbl : (c :: r).dropLast.length ≤ s.length := by
       rw [List.length_dropLast]
       have : (q :: c :: r).length = (c :: r).length + 1 := rfl
       omega
      have hbn : (c :: r).dropLast.length < (c :: r).length + 1 := by rw [List.length_dropLast]; omega
      revert eb hbl hbn
      generalize (c :: r).length + 1 = N
      generalize (c :: r).dropLast = bd
      intro eb hbl hbn
      have hB := Bld.new h0
      cases bd with
      | nil =>
       refine Cd rfl ?_
       refine c63 hB (.inl rfl) (Nat.zero_le _) fun h' => ?_
       rw [Ce]
       show AV.tuple _ = _
       rw [eb, Lb N 1 [] hbn (by decide)]; rfl
      | cons d u =>
       obtain ⟨N, rfl⟩ : ∃ N', N = N' + 1 := ⟨N - 1, by omega⟩
       have hlen : (d :: u).length = u.length + 1 := rfl
       refine Bl (Kr d u) ?_
       refine Ch (s := d :: u) (Nat.zero_lt_succ _) ?_
       refine Ch (s := q :: c :: r) (Nat.zero_lt_succ _) ?_
       rw [List.getElem_cons_zero, List.getElem_cons_zero, Ov]
       have eb : Lf s = if d = q then none else if d = 92 then (if (En u).2 = 0 then none else (Gp q N (u.drop (En u).2)).map ((En u).1 :: ·)) else (Gp q N u).map (d :: ·) := eb
       refine Bb (fun e => ?_) (fun e => ?_)
       · have e : d = q := of_decide_eq_true e
         rw [if_pos e] at eb
         exact bad _ eb
       · have e : ¬ d = q := of_decide_eq_false e
         rw [if_neg e] at eb
         refine Ch (s := d :: u) (Nat.zero_lt_succ _) ?_
         rw [List.getElem_cons_zero, toNat_eq _ 92 (by decide), Bq]
         refine Bb (fun e2 => ?_) (fun e2 => ?_)
         · have e2 : ¬ d = 92 := by simpa using e2
           rw [if_neg e2] at eb
           refine Ch (s := d :: u) (Nat.zero_lt_succ _) ?_
           refine Av3 (x := d) hB (by decide) fun h' hb' => ?_
           refine Fq (s := d :: u) (Nat.le_add_left 1 _) ?_
           refine Aos (s.length + 9) u ([] ++ [d]) h' (by omega) (by simp; omega) hb' ?_
           intro h2
           rw [eb, Lb N (s.length + 9) u (by omega) (by omega)]; rfl
         · have e2 : d = 92 := by simpa using e2
           rw [if_pos e2] at eb
           refine Fq (s := d :: u) (Nat.le_add_left 1 _) ?_
           refine Dn (Bga u (by omega)) ?_
           have hle := Aok u
           rw [Ed]
           show asI .u8 (.int .u8 (Int.ofNat (En u).1.toNat)) _
           rw [Au, Ek, Au]
           refine Bdd ?_
           unfold Amz
           rw [ilt]
           refine Bb (fun e3 => ?_) (fun e3 => ?_)
           · have e3 : 0 < (En u).2 := of_decide_eq_true e3
             rw [if_neg (by omega)] at eb
             refine Av3 hB (by decide) fun h' hb' => ?_
             have w1 : wrap .i64 (Bp (Int.ofNat 1) (Int.ofNat (En u).2)) = Int.ofNat (1 + (En u).2) := by
              rw [Gt, show Int.ofNat 1 + Int.ofNat (En u).2 = Int.ofNat (1 + (En u).2) from rfl]; exact Cm (by omega)
             rw [w1, Ar, As]
             refine Fq (s := d :: u) (by simp; omega) ?_
             have hd : (d :: u).drop (1 + (En u).2) = u.drop (En u).2 := by rw [Nat.add_comm, List.drop_succ_cons]
             rw [hd]
             refine Aos (s.length + 8) (u.drop (En u).2) ([] ++ [(En u).1]) h' (by rw [List.length_drop]; omega) (by rw [List.length_drop]; simp; omega) hb' ?_
             intro h2
             rw [eb, Lb N (s.length + 8) (u.drop (En u).2) (by rw [List.length_drop]; omega) (by rw [List.length_drop]; omega)]; rfl
           · have e3 : ¬ 0 < (En u).2 := of_decide_eq_false e3
             rw [if_pos (by omega)] at eb
             show AV.tuple _ = _
             rw [eb]; rfl
 · refine Cd rfl ?_
   refine bad _ ?_
   rw [Bool.or_eq_true] at e
   rcases e with e | e
   · have e : ¬ (Bf s).2 = true := by simpa using e
     exact if_neg e
   · have e : (s.drop (Bf s).1.length).length < 2 := of_decide_eq_true e
     unfold Lf
     by_cases h : (Bf s).2 = true
     · rw [if_pos h]
       revert e
       generalize s.drop (Bf s).1.length = t
       intro e
       match t, e with
       | [], _ => rfl
       | [_], _ => rfl
       | _ :: _ :: _, e => exact absurd e (by simp)
     · exact if_neg h
end Go.Den
