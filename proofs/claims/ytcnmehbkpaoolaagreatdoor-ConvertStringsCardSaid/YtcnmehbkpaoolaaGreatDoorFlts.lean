/-
 Part of the proof.
-/
import Derived.Test.YtcnmehbkpaoolaaGreatDoorRunE
import Derived.Test.YtcnmehbkpaoolaaGreatDoorDenQ
import Derived.KernelRfl
noncomputable section
namespace Go.Den
open Go.RowKit
set_option maxRecDepth 100000
def Bdi : List (Ob FT) := List.replicate 12 .dead
def A1l : List Loc := [⟨0, 0, 0⟩, ⟨1, 0, 0⟩, ⟨2, 0, 0⟩, ⟨3, 0, 0⟩, ⟨4, 0, 0⟩, ⟨5, 0, 0⟩, ⟨6, 0, 0⟩, ⟨7, 0, 0⟩, ⟨8, 0, 0⟩, ⟨9, 0, 0⟩, ⟨10, 0, 0⟩, ⟨11, 0, 0⟩]
theorem Bjo (w : World) : Sim (mu0 A1l) (Kk Bdi) w := Ze rfl rfl fun i o c h _ => by
 have : o = .dead := by
  have := List.mem_of_getElem? h
  exact List.eq_of_mem_replicate this
 subst this; trivial
theorem A5v : Fy (mu0 A1l) G := Sy fun g hg => by
 have hg : g < 12 := hg
 refine ⟨⟨g, 0, 0⟩, ?_, rfl, rfl⟩
 match g, hg with
 | 0, _ | 1, _ | 2, _ | 3, _ | 4, _ | 5, _ | 6, _ | 7, _ | 8, _ | 9, _ | 10, _ | 11, _ => rfl
abbrev h0 : H := Kk Bdi
abbrev PP : Program := Proofs.Tryz.prog
abbrev W1 : CF := SW PP G
theorem use {F : FuncId} {args : List AV} {r : AV} (hp : Pure PP G h0 F args r) (ha : Nn args = true) (hr : plain r = true) {h : H} {k : KV} (hk : k r h) : W1 (.func F) args h k := Ata Bjo A5v rfl hp ha hr hk
theorem Dq {F : FuncId} {args : List AV} {r : AV} (hp : Pure PP G h0 F args r) {h : H} {k : KV} (hk : k r h) (ha : Nn args = true := by rfl) (hr : plain r = true := by rfl) : W1 (.func F) args h k := use hp ha hr hk
theorem Bgv (s t : List UInt8) : Pure PP G h0 171 [S s, S t] (.bool (decide (s.take t.length = t))) := by
 refine Baf (n := 1) Bn (Bks ?_)
 unfold Aee
 refine Gu (fun e => ?_) (fun e => ?_)
 · rw [Jj, decide_eq_true_eq] at e
   have e : t.length ≤ s.length := Int.ofNat_le.1 e
   refine Alr e ?_
   rw [Dc]
 · rw [Jj, decide_eq_false_iff_not] at e
   have e : ¬ t.length ≤ s.length := fun h => e (Int.ofNat_le.2 h)
   have : ¬ s.take t.length = t := fun h => by
    have := congrArg List.length h
    simp at this; omega
   show AV.bool false = _
   rw [decide_eq_false this]
theorem A0r (s t : List UInt8) : Pure PP G h0 115 [S s, S t] (.bool (decide (s.take t.length = t))) := by
 refine Ba2 (n := 1) Bn (Blg ?_)
 exact Dq (Bgv s t) (rfl : AV.bool _ = AV.bool _)
def hx1 : List UInt8 := [48, 120]
def hx2 : List UInt8 := [48, 88]
def Nw (s : List UInt8) : Bool := decide (s.take 2 = hx1) || decide (s.take 2 = hx2)
def Ir : List UInt8 := [48, 49, 50, 51, 52, 53, 54, 55, 56, 57]
def Aab : List UInt8 := [48, 49, 50, 51, 52, 53, 54, 55]
def Gj : List UInt8 := [48, 49, 50, 51, 52, 53, 54, 55, 56, 57, 97, 98, 99, 100, 101, 102, 65, 66, 67, 68, 69, 70]
def Mg : List UInt8 := [117, 85, 108, 76]
def tbl (s : List UInt8) : List AV := (List.range 256).map fun i => .bool (s.any fun b => b.toNat == i)
theorem Xw (s : List UInt8) : (tbl s).length = 256 := by unfold tbl; simp
theorem Amq (s : List UInt8) (x : UInt8) : (tbl s).getD x.toNat .undef = .bool (decide (x ∈ s)) := by
 have hx := x.toNat_lt
 unfold tbl
 rw [List.getD_eq_getElem?_getD, List.getElem?_map, List.getElem?_range (by omega)]
 simp only [Option.map_some, Option.getD_some]
 congr 1
 rw [Bool.eq_iff_iff]
 simp [UInt8.toNat_inj]
def Ug (s : List UInt8) : Prop := Pure PP G h0 168 [S s] (.tuple [.agg (tbl s), .bool true])
theorem pure_run {F : FuncId} {args : List AV} {r : AV} (h : calls 100000 100000 (.func F) args h0 (fun v _ => v = r) = (r = r)) : Pure PP G h0 F args r :=
 Ahm (Le 100000 100000) (h.mpr rfl)
theorem Alp : Ug Ir := pure_run (by kernel_rfl)
theorem Atk : Ug Aab := pure_run (by kernel_rfl)
theorem Ald : Ug Gj := pure_run (by kernel_rfl)
theorem A3d : Ug Mg := pure_run (by kernel_rfl)
theorem a69 : Abd env 264 = some (256, 4) := by kernel_rfl
theorem t4' : (env.ty 4).map (·.size) = some 1 := by kernel_rfl
theorem t4 : ∃ ei, env.ty 4 = some ei ∧ ei.size = 1 := by
 have h := t4'
 cases e : env.ty 4 with
 | none => rw [e] at h; cases h
 | some ei => rw [e] at h; exact ⟨ei, rfl, Option.some.inj h⟩
theorem Bgu {h : H} {b : P} {t : Tm} {z : Nat} {e : TypeId} {w : Bool} (ha : h.at b = .row t 256 z e w) {x : UInt8} {β : Bool} (hx : Bd t x.toNat = .bool β) {k : KV} (hk : k (.bool β) h) :
 W1 (.func 215) [.ptr b 0, .int .u8 (Int.ofNat x.toNat)] h k := by
 refine A98 (n := 1) Bn (Bkl ?_)
 unfold Ad0
 have e1 : Cm (.ptr b 0) h = some (.ptr b 0, h) := rfl
 rw [e1, Ae]
 have e2 : Cy env 264 (.ptr b 0) (Bg (.int .u8 (Int.ofNat x.toNat))) h = some (.ptr b x.toNat, h) := by
  show Jr env 264 b 0 x.toNat h = _
  unfold Jr
  rw [a69]
  obtain ⟨ei, h1, h2⟩ := t4
  have hb : Nat.ble (Nat.add x.toNat 1) 256 = true := Nat.ble_eq_true_of_le (by have := x.toNat_lt; show x.toNat + 1 ≤ 256; omega)
  show (Bool.rec (motive := fun _ => Option (AV × H)) none (Option.rec (motive := fun _ => Option (AV × H)) none (fun ei => some (.ptr b (Nat.add 0 (Nat.mul x.toNat ei.size)), h)) (env.ty 4)) (Nat.ble (Nat.add x.toNat 1) 256)) = _
  rw [hb, h1]
  show some (AV.ptr b (0 + x.toNat * ei.size), h) = _
  rw [h2, Nat.zero_add, Nat.mul_one]
 rw [e2, Ae]
 refine Da ha x.toNat_lt ?_
 rw [hx, Ce]; exact hk
theorem Bgt {h : H} {b : P} {t : Tm} {z : Nat} {e : TypeId} {w : Bool} {set : List UInt8} (ha : h.at b = .row t 256 z e w) (ht : ∀ x : UInt8, Bd t x.toNat = .bool (decide (x ∈ set))) {k : KV} :
    ∀ (s : List UInt8) (n : Nat), s.length < n → k (S (s.dropWhile (· ∈ set))) h → (Ah2 W1 k n).a1 s.length (enc s) (.ptr b 0) h
  | _, 0, hn, _ => absurd hn (Nat.not_lt_zero _)
  | [], n + 1, _, hk => by
    refine Aua ?_
    unfold Zi
    exact Bp rfl hk
  | x :: s, n + 1, hn, hk => by
    refine Aua ?_
    unfold Zi
    refine Cg (by rw [Fm]; simp) ?_
    refine Ck (Nat.zero_lt_succ _) ?_
    refine Bgu ha (ht x) ?_
    rw [Ce]
    rw [Bw]
    refine Aw (fun e => ?_) (fun e => ?_)
    · have e : ¬ x ∈ set := by simpa using e
      have : (x :: s).dropWhile (· ∈ set) = x :: s := by simp [e]
      rw [this] at hk; exact hk
    · have e : x ∈ set := by simpa using e
      have : (x :: s).dropWhile (· ∈ set) = s.dropWhile (· ∈ set) := by simp [e]
      rw [this] at hk
      exact Fv (s := x :: s) (Nat.le_add_left 1 _) (Bgt ha ht s n (Nat.lt_of_succ_lt_succ hn) hk)
theorem Ts {s t : List UInt8} (h : s ≠ t) : Bq s.length (enc s) t.length (enc t) = false := by rw [Dc, decide_eq_false h]
theorem Bmr {set : List UInt8} (hs : Ug set) (h2 : 2 ≤ set.length) (s : List UInt8) : Pure PP G h0 172 [S s, S set] (S (s.dropWhile (· ∈ set))) := by
 refine Bae (n := 1) Bn (Bkr ?_)
 unfold Aed
 have e0 : Bq set.length (enc set) 0 0 = false := Ts (t := []) (fun h => by subst h; simp at h2)
 rw [e0]
 have e1 : Bq s.length (enc s) 0 0 = decide (s = []) := Dc (t := [])
 rw [e1]
 refine Kg ?_
 refine Aw (fun e => ?_) (fun e => ?_)
 · have e : s = [] := by simpa using e
   subst e; rfl
 · have e : ¬ s = [] := by simpa using e
   refine Gu (fun e => ?_) (fun _ => ?_)
   · rw [Fp, beq_iff_eq] at e
     have : set.length = 1 := by have := Int.ofNat.inj e; exact this
     omega
   · refine Bp rfl ?_
     refine Dq hs ?_
     rw [Eo, Ew, Ce]
     refine El ?_
     refine Aig (zs := List.replicate 256 (.bool false)) (by simp) (Xw _) (by omega) ?_
     intro h' ha
     refine Cg rfl ?_
     refine A97 (n := s.length + 2) Bn (Bkk ?_)
     unfold Adz
     refine Bgt (set := set) ha (fun x => ?_) s _ (by omega) ?_
     · rw [Ap, if_pos ⟨Nat.zero_le _, by rw [Xw]; have := x.toNat_lt; omega⟩, Nat.sub_zero]
       exact Amq set x
     · exact Ch.mpr rfl
theorem wrap64 {n : Int} (h1 : -9223372036854775808 ≤ n) (h2 : n ≤ 9223372036854775807) : wrap .i64 n = n := by
 rw [Ga]
 simp [IntKind.wrap, IntKind.bits, IntKind.signed]
 omega
def Cn (s set : List UInt8) : Nat := (s.takeWhile (· ∈ set)).length
theorem Ln (s set : List UInt8) : Cn s set ≤ s.length := by
 unfold Cn
 exact (List.takeWhile_sublist _).length_le
theorem Avl (s set : List UInt8) : s.length = Cn s set + (s.dropWhile (· ∈ set)).length := by
 have := congrArg List.length (List.takeWhile_append_dropWhile (p := (· ∈ set)) (l := s))
 rw [List.length_append] at this
 exact this.symm
theorem Aqx {set : List UInt8} (hs : Ug set) (h2 : 2 ≤ set.length) (s : List UInt8) (hl : s.length ≤ 4611686018427387904) : Pure PP G h0 116 [S s, S set] (.int .i64 (Int.ofNat (Cn s set))) := by
 refine Ba1 (n := 1) Bn (Blf ?_)
 unfold Afc
 refine Dq (Bmr hs h2 s) ?_
 rw [Ch, As, Uq]
 have e := Avl s set
 have : Int.ofNat s.length - Int.ofNat (s.dropWhile (· ∈ set)).length = Int.ofNat (Cn s set) := by
  show (s.length : Int) - ((s.dropWhile (· ∈ set)).length : Int) = (Cn s set : Int)
  omega
 rw [this]
 have hr := Ln s set
 rw [wrap64 (by show _ ≤ ((Cn s set : Nat) : Int); omega) (by show ((Cn s set : Nat) : Int) ≤ _; omega)]
def Xr (L : List UInt8) (x : UInt8) : Int := Nv x.toNat L.length (enc L) 0
theorem Zw (L : List UInt8) (x : UInt8) : (Xr L x < 0) ↔ x ∉ L := by
 unfold Xr
 rw [Sx (by have := x.toNat_lt; omega)]
 have ex : x.toNat.toUInt8 = x := by rw [Nat.toUInt8, UInt8.ofNat_toNat]
 rw [ex]
 cases h : L.findIdx? (· == x) with
 | none =>
  rw [List.findIdx?_eq_none_iff] at h
  constructor
  · intro _ hm; have := h x hm; simp at this
  · intro _; show (-1 : Int) < 0; omega
 | some j =>
  have hj := List.findIdx?_eq_some_iff_getElem.1 h
  obtain ⟨hlt, he, _⟩ := hj
  constructor
  · intro hn; exfalso
    have hn : ((0 + j : Nat) : Int) < 0 := hn
    omega
  · intro hm; exact absurd (by rw [← (beq_iff_eq.1 he)]; exact List.getElem_mem hlt) hm
theorem Bmi (L : List UInt8) (x : UInt8) : Pure PP G h0 257 [S L, .int .u8 (Int.ofNat x.toNat)] (.int .i64 (Xr L x)) := by
 refine A9v ?_
 refine Cg rfl ?_
 have hx : Nat.ble x.toNat 255 = true := Nat.ble_eq_true_of_le (by have := x.toNat_lt; omega)
 have e : Ho .indexByte [S L, .int .u8 (Int.ofNat x.toNat)] h0 = some (.int .i64 (Xr L x), h0) := by
  show (Bool.rec (motive := fun _ => Option (AV × H)) none (some (.int .i64 (Nv x.toNat L.length (enc L) 0), h0)) (Nat.ble x.toNat 255)) = _
  rw [hx]; rfl
 rw [e, Ae]
theorem Bmm (L : List UInt8) (x : UInt8) : Pure PP G h0 207 [S L, .int .u8 (Int.ofNat x.toNat)] (.int .i64 (Xr L x)) := by
 refine Baa (n := 1) Bn (Bkn ?_)
 unfold Ad3
 refine Dq (Bmi L x) ?_
 rw [Au]
theorem A84 (L : List UInt8) (x : UInt8) : Pure PP G h0 160 [S L, .int .u8 (Int.ofNat x.toNat)] (.int .i64 (Xr L x)) := by
 refine Bal (n := 1) Bn (Bky ?_)
 unfold Aep
 refine Dq (Bmm L x) ?_
 rw [Au]
def Pb : List UInt8 → List UInt8
 | [] => []
 | c :: r => if c = 43 ∨ c = 45 then r else c :: r
def Qj (s L : List UInt8) : List UInt8 × Bool := match s with
 | [] => ([], false)
 | x :: r => if x ∈ L then (if Cn (Pb r) Ir = 0 then (x :: r, false) else ((Pb r).drop (Cn (Pb r) Ir), true)) else (x :: r, false)
theorem Az5 {x : UInt8} {L : List UInt8} (h : x ∈ L) (r : List UInt8) : Qj (x :: r) L = (if Cn (Pb r) Ir = 0 then (x :: r, false) else ((Pb r).drop (Cn (Pb r) Ir), true)) := if_pos h
theorem Ajb {x : UInt8} {L : List UInt8} (h : x ∉ L) (r : List UInt8) : Qj (x :: r) L = (x :: r, false) := if_neg h
theorem Ark (r : List UInt8) : (Pb r).length ≤ r.length := by
 cases r with
 | nil => exact Nat.le_refl _
 | cons c r =>
  show (if c = 43 ∨ c = 45 then r else c :: r).length ≤ _
  split
  · exact Nat.le_succ _
  · exact Nat.le_refl _
theorem toNat_eq (c : UInt8) (n : Nat) (hn : n < 256) : Az (Int.ofNat c.toNat) (Int.ofNat n) = decide (c = UInt8.ofNat n) := by
 rw [Fp, Bool.eq_iff_iff, beq_iff_eq, decide_eq_true_eq]
 constructor
 · intro h
   have h : c.toNat = n := Int.ofNat.inj h
   subst h; simp
 · intro h; subst h
   show Int.ofNat _ = Int.ofNat _
   congr 1
   simp; omega
theorem Gk (s : List UInt8) : Bq s.length (enc s) 0 0 = decide (s = []) := Dc (t := [])
theorem Ky (c : UInt8) (r : List UInt8) : Bq (c :: r).length (enc (c :: r)) 0 0 = false := Ts (t := []) (by simp)
theorem At7 {a b : Bool} {h : H} {k : Bool → H → Prop} : Am (fun k1 => gate false a (k1 b h) (k1 true h)) k = k (a || b) h := by
 cases a <;> rfl
theorem Aqa {a b : Bool} {h : H} {k : Bool → H → Prop} : Am (fun k1 => gate true a (k1 b h) (k1 false h)) k = k (a && b) h := by
 cases a <;> rfl
theorem eqN (n : Nat) : Az (Int.ofNat n) (Int.ofNat 0) = decide (n = 0) := by
 rw [Fp, Bool.eq_iff_iff, beq_iff_eq, decide_eq_true_eq]
 exact ⟨fun h => Int.ofNat.inj h, fun h => by rw [h]⟩
theorem Yv (n : Int) {m : Nat} (hm : 0 < m) : -(m : Int) < n.tmod m ∧ n.tmod m < m := by
 constructor
 · have := Int.lt_tmod_of_pos n (show (0 : Int) < m by omega)
   exact this
 · exact Int.tmod_lt_of_pos n (show (0 : Int) < m by omega)
theorem c23 (n : Int) {m : Nat} (hm : 0 < m) (hb : m ≤ 1000000) : ∃ r, r < m ∧ Pure PP G h0 23 [.int .i64 n, .int .i64 (Int.ofNat m)] (.int .i64 (Int.ofNat r)) := by
 obtain ⟨h1, h2⟩ := Yv n hm
 have h3 : 0 ≤ (n.tmod m + m).tmod m := Int.tmod_nonneg _ (by omega)
 have h4 := (Yv (n.tmod m + m) hm).2
 refine ⟨((n.tmod m + m).tmod m).toNat, by omega, ?_⟩
 refine w23 (n := 1) Bn (g23 ?_)
 unfold Anw
 have e0 : Az (Int.ofNat m) (Int.ofNat 0) = false := by rw [eqN, decide_eq_false (by omega)]
 unfold Ayy
 rw [e0]
 show fI (n.tmod (m : Int)) _
 rw [As, Hf, As]
 have w1 : wrap .i64 (n.tmod (m : Int) + Int.ofNat m) = n.tmod m + m := wrap64 (by show _ ≤ n.tmod (m : Int) + (m : Int); omega) (by show n.tmod (m : Int) + (m : Int) ≤ _; omega)
 rw [w1]
 show fI ((n.tmod m + m).tmod (m : Int)) _
 rw [As]
 show AV.int _ _ = AV.int _ _
 congr 1
 show _ = ((((n.tmod m + m).tmod m).toNat : Nat) : Int)
 omega
def Gi (s set : List UInt8) : List UInt8 := (s.reverse.dropWhile (· ∈ set)).reverse
theorem Akr (s set : List UInt8) (x : UInt8) : Gi (s ++ [x]) set = if x ∈ set then Gi s set else s ++ [x] := by
 unfold Gi
 rw [List.reverse_append, List.reverse_singleton, List.singleton_append, List.dropWhile_cons]
 by_cases h : x ∈ set <;> simp [h]
theorem Awd {h : H} {b : P} {t : Tm} {z : Nat} {e : TypeId} {w : Bool} {set : List UInt8} (ha : h.at b = .row t 256 z e w) (ht : ∀ x : UInt8, Bd t x.toNat = .bool (decide (x ∈ set))) {k : KV} :
    ∀ (n : Nat) (s : List UInt8), s.length ≤ 4611686018427387904 → s.length < n → k (S (Gi s set)) h → (Ah4 W1 k n).a1 s.length (enc s) (.ptr b 0) h
  | 0, _, _, hn, _ => absurd hn (Nat.not_lt_zero _)
  | n + 1, s, hl, hn, hk => by
    refine A45 ?_
    unfold Aef
    rcases List.eq_nil_or_concat s with rfl | ⟨r, x, rfl⟩
    · exact Bp rfl hk
    · rw [List.concat_eq_append] at hl hn hk ⊢
      have hlen : (r ++ [x]).length = r.length + 1 := by simp
      refine Cg (by rw [Fm]; simp) ?_
      rw [Uq]
      have w1 : wrap .i64 (Int.ofNat (r ++ [x]).length - Int.ofNat 1) = Int.ofNat r.length := by
        rw [hlen]
        have : Int.ofNat (r.length + 1) - Int.ofNat 1 = Int.ofNat r.length := by show ((r.length + 1 : Nat) : Int) - ((1 : Nat) : Int) = (r.length : Int); omega
        rw [this, wrap64 (by show _ ≤ ((r.length : Nat) : Int); omega) (by show ((r.length : Nat) : Int) ≤ _; omega)]
      rw [As, w1, Ar]
      refine Ck (by rw [hlen]; omega) ?_
      have hx : (r ++ [x])[r.length]'(by rw [hlen]; omega) = x := by simp
      rw [hx]
      refine Bgu ha (ht x) ?_
      rw [Ce, Bw]
      rw [Akr] at hk
      refine Aw (fun e => ?_) (fun e => ?_)
      · have e : ¬ x ∈ set := by simpa using e
        rw [if_neg e] at hk; exact hk
      · have e : x ∈ set := by simpa using e
        rw [if_pos e] at hk
        rw [As, Ar]
        refine Alr (by rw [hlen]; omega) ?_
        have ht' : (r ++ [x]).take r.length = r := by simp
        rw [ht']
        exact Awd ha ht n r (by omega) (by omega) hk
theorem Ma {a b : Bool} {h : H} {Q : (Bool → H → Prop) → Prop} {k : Bool → H → Prop} (hq : ∀ k', k' b h → Q k') (hk : k (a || b) h) : Am (fun k1 => gate false a (Q k1) (k1 true h)) k := by
 cases a with
 | true => exact hk
 | false => exact hq k hk
theorem Li {a b : Bool} {h : H} {Q : (Bool → H → Prop) → Prop} {k : Bool → H → Prop} (hq : ∀ k', k' b h → Q k') (hk : k (a && b) h) : Am (fun k1 => gate true a (Q k1) (k1 false h)) k := by
 cases a with
 | true => exact hq k hk
 | false => exact hk
theorem Kn {α : Type} {x : α} {K : α → Prop} : oV (some x) K = K x := rfl
theorem Aq3 (b : Bool) : Ajz b b = true := by cases b <;> rfl
theorem Co {m : Nat} (h : m ≤ 9223372036854775807) : wrap .i64 (Int.ofNat m) = Int.ofNat m := wrap64 (by show _ ≤ ((m : Nat) : Int); omega) (by show ((m : Nat) : Int) ≤ _; omega)
end Go.Den
