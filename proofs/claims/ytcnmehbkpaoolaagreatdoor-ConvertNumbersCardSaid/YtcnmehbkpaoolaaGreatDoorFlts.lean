/-
 Proof.
-/
import Derived.Test.YtcnmehbkpaoolaaGreatDoorRunE
import Derived.Test.YtcnmehbkpaoolaaGreatDoorDenQ
import Derived.KernelRfl
noncomputable section
namespace Go.Den
open Go.RowKit
set_option maxRecDepth 100000
def Bdg : List (Ob FT) := List.replicate 12 .dead
def A1e : List Loc := [⟨0, 0, 0⟩, ⟨1, 0, 0⟩, ⟨2, 0, 0⟩, ⟨3, 0, 0⟩, ⟨4, 0, 0⟩, ⟨5, 0, 0⟩, ⟨6, 0, 0⟩, ⟨7, 0, 0⟩, ⟨8, 0, 0⟩, ⟨9, 0, 0⟩, ⟨10, 0, 0⟩, ⟨11, 0, 0⟩]
theorem Bjr (w : World) : Sim (mu0 A1e) (Kl Bdg) w := Yy rfl rfl fun i o c h _ => by
 have : o = .dead := by
  have := List.mem_of_getElem? h
  exact List.eq_of_mem_replicate this
 subst this; trivial
theorem A5q : Fy (mu0 A1e) G := Tb fun g hg => by
 have hg : g < 12 := hg
 refine ⟨⟨g, 0, 0⟩, ?_, rfl, rfl⟩
 match g, hg with
 | 0, _ | 1, _ | 2, _ | 3, _ | 4, _ | 5, _ | 6, _ | 7, _ | 8, _ | 9, _ | 10, _ | 11, _ => rfl
abbrev h0 : H := Kl Bdg
abbrev PP : Program := Proofs.Tryz.prog
abbrev W1 : CF := SW PP G
theorem use {F : FuncId} {args : List AV} {r : AV} (hp : Pure PP G h0 F args r) (ha : Nq args = true) (hr : plain r = true) {h : H} {k : KV} (hk : k r h) : W1 (.func F) args h k := As4 Bjr A5q rfl hp ha hr hk
theorem Dq {F : FuncId} {args : List AV} {r : AV} (hp : Pure PP G h0 F args r) {h : H} {k : KV} (hk : k r h) (ha : Nq args = true := by rfl) (hr : plain r = true := by rfl) : W1 (.func F) args h k := use hp ha hr hk
theorem Bgs (s t : List UInt8) : Pure PP G h0 171 [S s, S t] (.bool (decide (s.take t.length = t))) := by
 refine A96 (n := 1) Bm (Bk5 ?_)
 unfold Aec
 refine Iz (fun e => ?_) (fun e => ?_)
 · rw [Jl, decide_eq_true_eq] at e
   have e : t.length ≤ s.length := Int.ofNat_le.1 e
   refine Als e ?_
   rw [Df]
 · rw [Jl, decide_eq_false_iff_not] at e
   have e : ¬ t.length ≤ s.length := fun h => e (Int.ofNat_le.2 h)
   have : ¬ s.take t.length = t := fun h => by
    have := congrArg List.length h
    simp at this; omega
   show AV.bool false = _
   rw [decide_eq_false this]
theorem A0j (s t : List UInt8) : Pure PP G h0 115 [S s, S t] (.bool (decide (s.take t.length = t))) := by
 refine Bat (n := 1) Bm (Blt ?_)
 exact Dq (Bgs s t) (rfl : AV.bool _ = AV.bool _)
def hx1 : List UInt8 := [48, 120]
def hx2 : List UInt8 := [48, 88]
def Oa (s : List UInt8) : Bool := decide (s.take 2 = hx1) || decide (s.take 2 = hx2)
def Gl : List UInt8 := [48, 49, 50, 51, 52, 53, 54, 55, 56, 57]
def Zv : List UInt8 := [48, 49, 50, 51, 52, 53, 54, 55]
def Gk : List UInt8 := [48, 49, 50, 51, 52, 53, 54, 55, 56, 57, 97, 98, 99, 100, 101, 102, 65, 66, 67, 68, 69, 70]
def Mh : List UInt8 := [117, 85, 108, 76]
def tbl (s : List UInt8) : List AV := (List.range 256).map fun i => .bool (s.any fun b => b.toNat == i)
theorem Xt (s : List UInt8) : (tbl s).length = 256 := by unfold tbl; simp
theorem Amo (s : List UInt8) (x : UInt8) : (tbl s).getD x.toNat .undef = .bool (decide (x ∈ s)) := by
 have hx := x.toNat_lt
 unfold tbl
 rw [List.getD_eq_getElem?_getD, List.getElem?_map, List.getElem?_range (by omega)]
 simp only [Option.map_some, Option.getD_some]
 congr 1
 rw [Bool.eq_iff_iff]
 simp [UInt8.toNat_inj]
def Uk (s : List UInt8) : Prop := Pure PP G h0 168 [S s] (.tuple [.agg (tbl s), .bool true])
theorem pure_run {F : FuncId} {args : List AV} {r : AV} (h : calls 100000 100000 (.func F) args h0 (fun v _ => v = r) = (r = r)) : Pure PP G h0 F args r :=
 Ahj (Ld 100000 100000) (h.mpr rfl)
theorem Alq : Uk Gl := pure_run (by kernel_rfl)
theorem Ate : Uk Zv := pure_run (by kernel_rfl)
theorem Ale : Uk Gk := pure_run (by kernel_rfl)
theorem A29 : Uk Mh := pure_run (by kernel_rfl)
theorem a69 : Aa9 env 264 = some (256, 4) := by kernel_rfl
theorem t4' : (env.ty 4).map (·.size) = some 1 := by kernel_rfl
theorem t4 : ∃ ei, env.ty 4 = some ei ∧ ei.size = 1 := by
 have h := t4'
 cases e : env.ty 4 with
 | none => rw [e] at h; cases h
 | some ei => rw [e] at h; exact ⟨ei, rfl, Option.some.inj h⟩
theorem Bgr {h : H} {b : P} {t : Tm} {z : Nat} {e : TypeId} {w : Bool} (ha : h.at b = .row t 256 z e w) {x : UInt8} {β : Bool} (hx : Ba t x.toNat = .bool β) {k : KV} (hk : k (.bool β) h) :
    W1 (.func 215) [.ptr b 0, .int .u8 (Int.ofNat x.toNat)] h k := by
  refine A9z (n := 1) Bm (Bky ?_)
  unfold Ady
  have e1 : Cj (.ptr b 0) h = some (.ptr b 0, h) := rfl
  rw [e1, Ae]
  have e2 : Cy env 264 (.ptr b 0) (Bd (.int .u8 (Int.ofNat x.toNat))) h = some (.ptr b x.toNat, h) := by
    show Jt env 264 b 0 x.toNat h = _
    unfold Jt
    rw [a69]
    obtain ⟨ei, h1, h2⟩ := t4
    have hb : Nat.ble (Nat.add x.toNat 1) 256 = true := Nat.ble_eq_true_of_le (by have := x.toNat_lt; show x.toNat + 1 ≤ 256; omega)
    show (Bool.rec (motive := fun _ => Option (AV × H)) none (Option.rec (motive := fun _ => Option (AV × H)) none (fun ei => some (.ptr b (Nat.add 0 (Nat.mul x.toNat ei.size)), h)) (env.ty 4)) (Nat.ble (Nat.add x.toNat 1) 256)) = _
    rw [hb, h1]
    show some (AV.ptr b (0 + x.toNat * ei.size), h) = _
    rw [h2, Nat.zero_add, Nat.mul_one]
  rw [e2, Ae]
  refine Da ha x.toNat_lt ?_
  rw [hx, Cg]; exact hk
theorem Bgq {h : H} {b : P} {t : Tm} {z : Nat} {e : TypeId} {w : Bool} {set : List UInt8} (ha : h.at b = .row t 256 z e w) (ht : ∀ x : UInt8, Ba t x.toNat = .bool (decide (x ∈ set))) {k : KV} :
    ∀ (s : List UInt8) (n : Nat), s.length < n → k (S (s.dropWhile (· ∈ set))) h → (Ahz W1 k n).a1 s.length (enc s) (.ptr b 0) h
  | _, 0, hn, _ => absurd hn (Nat.not_lt_zero _)
  | [], n + 1, _, hk => by
    refine At5 ?_
    unfold Zc
    exact Bi rfl hk
  | x :: s, n + 1, hn, hk => by
    refine At5 ?_
    unfold Zc
    refine Cd (by rw [Fm]; simp) ?_
    refine Cr (Nat.zero_lt_succ _) ?_
    refine Bgr ha (ht x) ?_
    rw [Cg]
    rw [Bl]
    refine Bb (fun e => ?_) (fun e => ?_)
    · have e : ¬ x ∈ set := by simpa using e
      have : (x :: s).dropWhile (· ∈ set) = x :: s := by simp [e]
      rw [this] at hk; exact hk
    · have e : x ∈ set := by simpa using e
      have : (x :: s).dropWhile (· ∈ set) = s.dropWhile (· ∈ set) := by simp [e]
      rw [this] at hk
      exact Fv (s := x :: s) (Nat.le_add_left 1 _) (Bgq ha ht s n (Nat.lt_of_succ_lt_succ hn) hk)
theorem Tw {s t : List UInt8} (h : s ≠ t) : Bp s.length (enc s) t.length (enc t) = false := by rw [Df, decide_eq_false h]
theorem Bm2 {set : List UInt8} (hs : Uk set) (h2 : 2 ≤ set.length) (s : List UInt8) : Pure PP G h0 172 [S s, S set] (S (s.dropWhile (· ∈ set))) := by
 refine A95 (n := 1) Bm (Bk4 ?_)
 unfold Aeb
 have e0 : Bp set.length (enc set) 0 0 = false := Tw (t := []) (fun h => by subst h; simp at h2)
 rw [e0]
 have e1 : Bp s.length (enc s) 0 0 = decide (s = []) := Df (t := [])
 rw [e1]
 refine Kh ?_
 refine Bb (fun e => ?_) (fun e => ?_)
 · have e : s = [] := by simpa using e
   subst e; rfl
 · have e : ¬ s = [] := by simpa using e
   refine Iz (fun e => ?_) (fun _ => ?_)
   · rw [Fp, beq_iff_eq] at e
     have : set.length = 1 := by have := Int.ofNat.inj e; exact this
     omega
   · refine Bi rfl ?_
     refine Dq hs ?_
     rw [En, Ev, Cg]
     refine Ek ?_
     refine Aid (zs := List.replicate 256 (.bool false)) (by simp) (Xt _) (by omega) ?_
     intro h' ha
     refine Cd rfl ?_
     refine A9y (n := s.length + 2) Bm (Bkx ?_)
     unfold Adx
     refine Bgq (set := set) ha (fun x => ?_) s _ (by omega) ?_
     · rw [Ao, if_pos ⟨Nat.zero_le _, by rw [Xt]; have := x.toNat_lt; omega⟩, Nat.sub_zero]
       exact Amo set x
     · exact Ck.mpr rfl
theorem wrap64 {n : Int} (h1 : -9223372036854775808 ≤ n) (h2 : n ≤ 9223372036854775807) : wrap .i64 n = n := by
 rw [Ga]
 simp [IntKind.wrap, IntKind.bits, IntKind.signed]
 omega
def Cl (s set : List UInt8) : Nat := (s.takeWhile (· ∈ set)).length
theorem Ln (s set : List UInt8) : Cl s set ≤ s.length := by
 unfold Cl
 exact (List.takeWhile_sublist _).length_le
theorem Avg (s set : List UInt8) : s.length = Cl s set + (s.dropWhile (· ∈ set)).length := by
 have := congrArg List.length (List.takeWhile_append_dropWhile (p := (· ∈ set)) (l := s))
 rw [List.length_append] at this
 exact this.symm
theorem Aqs {set : List UInt8} (hs : Uk set) (h2 : 2 ≤ set.length) (s : List UInt8) (hl : s.length ≤ 4611686018427387904) : Pure PP G h0 116 [S s, S set] (.int .i64 (Int.ofNat (Cl s set))) := by
 refine Bas (n := 1) Bm (Bls ?_)
 unfold Afa
 refine Dq (Bm2 hs h2 s) ?_
 rw [Ck, Ar, Ut]
 have e := Avg s set
 have : Int.ofNat s.length - Int.ofNat (s.dropWhile (· ∈ set)).length = Int.ofNat (Cl s set) := by
  show (s.length : Int) - ((s.dropWhile (· ∈ set)).length : Int) = (Cl s set : Int)
  omega
 rw [this]
 have hr := Ln s set
 rw [wrap64 (by show _ ≤ ((Cl s set : Nat) : Int); omega) (by show ((Cl s set : Nat) : Int) ≤ _; omega)]
def Xo (L : List UInt8) (x : UInt8) : Int := Nz x.toNat L.length (enc L) 0
theorem Zq (L : List UInt8) (x : UInt8) : (Xo L x < 0) ↔ x ∉ L := by
 unfold Xo
 rw [Ta (by have := x.toNat_lt; omega)]
 have ex : x.toNat.toUInt8 = x := by rw [Nat.toUInt8, UInt8.ofNat_toNat]
 rw [ex]
 cases h : L.findIdx? (· == x) with
 | none =>
  rw [List.findIdx?_eq_none_iff] at h
  constructor
  · intro _ hm; have := h x hm; simp at this
  · intro _; show (-1 : Int) < 0; omega
 | some j =>
  have hj := List.findIdx?_eq_some_iff_getElem.1 h
  obtain ⟨hlt, he, _⟩ := hj
  constructor
  · intro hn; exfalso
    have hn : ((0 + j : Nat) : Int) < 0 := hn
    omega
  · intro hm; exact absurd (by rw [← (beq_iff_eq.1 he)]; exact List.getElem_mem hlt) hm
theorem Bmt (L : List UInt8) (x : UInt8) : Pure PP G h0 257 [S L, .int .u8 (Int.ofNat x.toNat)] (.int .i64 (Xo L x)) := by
 refine A9m ?_
 refine Cd rfl ?_
 have hx : Nat.ble x.toNat 255 = true := Nat.ble_eq_true_of_le (by have := x.toNat_lt; omega)
 have e : Hq .indexByte [S L, .int .u8 (Int.ofNat x.toNat)] h0 = some (.int .i64 (Xo L x), h0) := by
  show (Bool.rec (motive := fun _ => Option (AV × H)) none (some (.int .i64 (Nz x.toNat L.length (enc L) 0), h0)) (Nat.ble x.toNat 255)) = _
  rw [hx]; rfl
 rw [e, Ae]
theorem Bmx (L : List UInt8) (x : UInt8) : Pure PP G h0 207 [S L, .int .u8 (Int.ofNat x.toNat)] (.int .i64 (Xo L x)) := by
 refine A91 (n := 1) Bm (Bk0 ?_)
 unfold Ad1
 refine Dq (Bmt L x) ?_
 rw [Au]
theorem A8x (L : List UInt8) (x : UInt8) : Pure PP G h0 160 [S L, .int .u8 (Int.ofNat x.toNat)] (.int .i64 (Xo L x)) := by
 refine Bac (n := 1) Bm (Blb ?_)
 unfold Aen
 refine Dq (Bmx L x) ?_
 rw [Au]
def Pc : List UInt8 → List UInt8
 | [] => []
 | c :: r => if c = 43 ∨ c = 45 then r else c :: r
def Qj (s L : List UInt8) : List UInt8 × Bool := match s with
 | [] => ([], false)
 | x :: r => if x ∈ L then (if Cl (Pc r) Gl = 0 then (x :: r, false) else ((Pc r).drop (Cl (Pc r) Gl), true)) else (x :: r, false)
theorem Azw {x : UInt8} {L : List UInt8} (h : x ∈ L) (r : List UInt8) : Qj (x :: r) L = (if Cl (Pc r) Gl = 0 then (x :: r, false) else ((Pc r).drop (Cl (Pc r) Gl), true)) := if_pos h
theorem Ai9 {x : UInt8} {L : List UInt8} (h : x ∉ L) (r : List UInt8) : Qj (x :: r) L = (x :: r, false) := if_neg h
theorem Are (r : List UInt8) : (Pc r).length ≤ r.length := by
 cases r with
 | nil => exact Nat.le_refl _
 | cons c r =>
  show (if c = 43 ∨ c = 45 then r else c :: r).length ≤ _
  split
  · exact Nat.le_succ _
  · exact Nat.le_refl _
theorem toNat_eq (c : UInt8) (n : Nat) (hn : n < 256) : Az (Int.ofNat c.toNat) (Int.ofNat n) = decide (c = UInt8.ofNat n) := by
 rw [Fp, Bool.eq_iff_iff, beq_iff_eq, decide_eq_true_eq]
 constructor
 · intro h
   have h : c.toNat = n := Int.ofNat.inj h
   subst h; simp
 · intro h; subst h
   show Int.ofNat _ = Int.ofNat _
   congr 1
   simp; omega
theorem Gn (s : List UInt8) : Bp s.length (enc s) 0 0 = decide (s = []) := Df (t := [])
theorem Ky (c : UInt8) (r : List UInt8) : Bp (c :: r).length (enc (c :: r)) 0 0 = false := Tw (t := []) (by simp)
theorem At2 {a b : Bool} {h : H} {k : Bool → H → Prop} : Ap (fun k1 => gate false a (k1 b h) (k1 true h)) k = k (a || b) h := by
 cases a <;> rfl
theorem Ap6 {a b : Bool} {h : H} {k : Bool → H → Prop} : Ap (fun k1 => gate true a (k1 b h) (k1 false h)) k = k (a && b) h := by
 cases a <;> rfl
theorem eqN (n : Nat) : Az (Int.ofNat n) (Int.ofNat 0) = decide (n = 0) := by
 rw [Fp, Bool.eq_iff_iff, beq_iff_eq, decide_eq_true_eq]
 exact ⟨fun h => Int.ofNat.inj h, fun h => by rw [h]⟩
theorem Yp (n : Int) {m : Nat} (hm : 0 < m) : -(m : Int) < n.tmod m ∧ n.tmod m < m := by
 constructor
 · have := Int.lt_tmod_of_pos n (show (0 : Int) < m by omega)
   exact this
 · exact Int.tmod_lt_of_pos n (show (0 : Int) < m by omega)
theorem c23 (n : Int) {m : Nat} (hm : 0 < m) (hb : m ≤ 1000000) : ∃ r, r < m ∧ Pure PP G h0 23 [.int .i64 n, .int .i64 (Int.ofNat m)] (.int .i64 (Int.ofNat r)) := by
 obtain ⟨h1, h2⟩ := Yp n hm
 have h3 : 0 ≤ (n.tmod m + m).tmod m := Int.tmod_nonneg _ (by omega)
 have h4 := (Yp (n.tmod m + m) hm).2
 refine ⟨((n.tmod m + m).tmod m).toNat, by omega, ?_⟩
 refine w23 (n := 1) Bm (g23 ?_)
 unfold Anr
 have e0 : Az (Int.ofNat m) (Int.ofNat 0) = false := by rw [eqN, decide_eq_false (by omega)]
 unfold Ayp
 rw [e0]
 show fI (n.tmod (m : Int)) _
 rw [Ar, Hf, Ar]
 have w1 : wrap .i64 (n.tmod (m : Int) + Int.ofNat m) = n.tmod m + m := wrap64 (by show _ ≤ n.tmod (m : Int) + (m : Int); omega) (by show n.tmod (m : Int) + (m : Int) ≤ _; omega)
 rw [w1]
 show fI ((n.tmod m + m).tmod (m : Int)) _
 rw [Ar]
 show AV.int _ _ = AV.int _ _
 congr 1
 show _ = ((((n.tmod m + m).tmod m).toNat : Nat) : Int)
 omega
def Gi (s set : List UInt8) : List UInt8 := (s.reverse.dropWhile (· ∈ set)).reverse
theorem Akr (s set : List UInt8) (x : UInt8) : Gi (s ++ [x]) set = if x ∈ set then Gi s set else s ++ [x] := by
 unfold Gi
 rw [List.reverse_append, List.reverse_singleton, List.singleton_append, List.dropWhile_cons]
 by_cases h : x ∈ set <;> simp [h]
theorem Av8 {h : H} {b : P} {t : Tm} {z : Nat} {e : TypeId} {w : Bool} {set : List UInt8} (ha : h.at b = .row t 256 z e w) (ht : ∀ x : UInt8, Ba t x.toNat = .bool (decide (x ∈ set))) {k : KV} :
    ∀ (n : Nat) (s : List UInt8), s.length ≤ 4611686018427387904 → s.length < n → k (S (Gi s set)) h → (Ah1 W1 k n).a1 s.length (enc s) (.ptr b 0) h
  | 0, _, _, hn, _ => absurd hn (Nat.not_lt_zero _)
  | n + 1, s, hl, hn, hk => by
    refine A40 ?_
    unfold Aed
    rcases List.eq_nil_or_concat s with rfl | ⟨r, x, rfl⟩
    · exact Bi rfl hk
    · rw [List.concat_eq_append] at hl hn hk ⊢
      have hlen : (r ++ [x]).length = r.length + 1 := by simp
      refine Cd (by rw [Fm]; simp) ?_
      rw [Ut]
      have w1 : wrap .i64 (Int.ofNat (r ++ [x]).length - Int.ofNat 1) = Int.ofNat r.length := by
        rw [hlen]
        have : Int.ofNat (r.length + 1) - Int.ofNat 1 = Int.ofNat r.length := by show ((r.length + 1 : Nat) : Int) - ((1 : Nat) : Int) = (r.length : Int); omega
        rw [this, wrap64 (by show _ ≤ ((r.length : Nat) : Int); omega) (by show ((r.length : Nat) : Int) ≤ _; omega)]
      rw [Ar, w1, As]
      refine Cr (by rw [hlen]; omega) ?_
      have hx : (r ++ [x])[r.length]'(by rw [hlen]; omega) = x := by simp
      rw [hx]
      refine Bgr ha (ht x) ?_
      rw [Cg, Bl]
      rw [Akr] at hk
      refine Bb (fun e => ?_) (fun e => ?_)
      · have e : ¬ x ∈ set := by simpa using e
        rw [if_neg e] at hk; exact hk
      · have e : x ∈ set := by simpa using e
        rw [if_pos e] at hk
        rw [Ar, As]
        refine Als (by rw [hlen]; omega) ?_
        have ht' : (r ++ [x]).take r.length = r := by simp
        rw [ht']
        exact Av8 ha ht n r (by omega) (by omega) hk
theorem Ry {a b : Bool} {h : H} {Q : (Bool → H → Prop) → Prop} {k : Bool → H → Prop} (hq : ∀ k', k' b h → Q k') (hk : k (a || b) h) : Ap (fun k1 => gate false a (Q k1) (k1 true h)) k := by
 cases a with
 | true => exact hk
 | false => exact hq k hk
theorem Ly {a b : Bool} {h : H} {Q : (Bool → H → Prop) → Prop} {k : Bool → H → Prop} (hq : ∀ k', k' b h → Q k') (hk : k (a && b) h) : Ap (fun k1 => gate true a (Q k1) (k1 false h)) k := by
 cases a with
 | true => exact hq k hk
 | false => exact hk
theorem Ko {α : Type} {x : α} {K : α → Prop} : oV (some x) K = K x := rfl
theorem Aqy (b : Bool) : Ajz b b = true := by cases b <;> rfl
theorem Cm {m : Nat} (h : m ≤ 9223372036854775807) : wrap .i64 (Int.ofNat m) = Int.ofNat m := wrap64 (by show _ ≤ ((m : Nat) : Int); omega) (by show ((m : Nat) : Int) ≤ _; omega)
end Go.Den
