/-
 A part of the proof.
-/
import Derived.Test.YtcnmehbkpaoolaaGreatDoorRunE
import Derived.Test.YtcnmehbkpaoolaaGreatDoorDenQ
import Derived.KernelRfl
noncomputable section
namespace Go.Den
open Go.RowKit
set_option maxRecDepth 100000
def Bcn : List (Ob FT) := List.replicate 12 .dead
def A0z : List Loc := [⟨0, 0, 0⟩, ⟨1, 0, 0⟩, ⟨2, 0, 0⟩, ⟨3, 0, 0⟩, ⟨4, 0, 0⟩, ⟨5, 0, 0⟩, ⟨6, 0, 0⟩, ⟨7, 0, 0⟩, ⟨8, 0, 0⟩, ⟨9, 0, 0⟩, ⟨10, 0, 0⟩, ⟨11, 0, 0⟩]
theorem Biu (w : World) : Sim (mu0 A0z) (Uq Bcn) w := Ahd rfl rfl fun i o c h _ => by
 have : o = .dead := by
  have := List.mem_of_getElem? h
  exact List.eq_of_mem_replicate this
 subst this; trivial
theorem A43 : Ft (mu0 A0z) G := Aal fun g hg => by
 have hg : g < 12 := hg
 refine ⟨⟨g, 0, 0⟩, ?_, rfl, rfl⟩
 match g, hg with
 | 0, _ | 1, _ | 2, _ | 3, _ | 4, _ | 5, _ | 6, _ | 7, _ | 8, _ | 9, _ | 10, _ | 11, _ => rfl
abbrev h0 : H := Uq Bcn
abbrev PP : Program := Proofs.Tryz.prog
abbrev W1 : CF := SW PP G
theorem use {F : FuncId} {args : List AV} {r : AV} (hp : Pure PP G h0 F args r) (ha : Nf args = true) (hr : plain r = true) {h : H} {k : KV} (hk : k r h) : W1 (.func F) args h k := Asw Biu A43 rfl hp ha hr hk
theorem Dn {F : FuncId} {args : List AV} {r : AV} (hp : Pure PP G h0 F args r) {h : H} {k : KV} (hk : k r h) (ha : Nf args = true := by rfl) (hr : plain r = true := by rfl) : W1 (.func F) args h k := use hp ha hr hk
theorem Bf5 (s t : List UInt8) : Pure PP G h0 171 [S s, S t] (.bool (decide (s.take t.length = t))) := by
 refine A9k (n := 1) Bj (Bj0 ?_)
 unfold Ad3
 refine Gq (fun e => ?_) (fun e => ?_)
 · rw [Ja, decide_eq_true_eq] at e
   have e : t.length ≤ s.length := Int.ofNat_le.1 e
   refine Ald e ?_
   rw [Cq]
 · rw [Ja, decide_eq_false_iff_not] at e
   have e : ¬ t.length ≤ s.length := fun h => e (Int.ofNat_le.2 h)
   have : ¬ s.take t.length = t := fun h => by
    have := congrArg List.length h
    simp at this; omega
   show AV.bool false = _
   rw [decide_eq_false this]
theorem Az7 (s t : List UInt8) : Pure PP G h0 115 [S s, S t] (.bool (decide (s.take t.length = t))) := by
 refine A97 (n := 1) Bj (Bkn ?_)
 exact Dn (Bf5 s t) (rfl : AV.bool _ = AV.bool _)
def hx1 : List UInt8 := [48, 120]
def hx2 : List UInt8 := [48, 88]
def Nq (s : List UInt8) : Bool := decide (s.take 2 = hx1) || decide (s.take 2 = hx2)
end Go.Den
namespace Go.Den
open Go.RowKit
set_option maxRecDepth 100000
def Hg : List UInt8 := [48, 49, 50, 51, 52, 53, 54, 55, 56, 57]
def Zr : List UInt8 := [48, 49, 50, 51, 52, 53, 54, 55]
def Ge : List UInt8 := [48, 49, 50, 51, 52, 53, 54, 55, 56, 57, 97, 98, 99, 100, 101, 102, 65, 66, 67, 68, 69, 70]
def Ly : List UInt8 := [117, 85, 108, 76]
def tbl (s : List UInt8) : List AV := (List.range 256).map fun i => .bool (s.any fun b => b.toNat == i)
theorem Xo (s : List UInt8) : (tbl s).length = 256 := by unfold tbl; simp
theorem Amb (s : List UInt8) (x : UInt8) : (tbl s).getD x.toNat .undef = .bool (decide (x ∈ s)) := by
 have hx := x.toNat_lt
 unfold tbl
 rw [List.getD_eq_getElem?_getD, List.getElem?_map, List.getElem?_range (by omega)]
 simp only [Option.map_some, Option.getD_some]
 congr 1
 rw [Bool.eq_iff_iff]
 simp [UInt8.toNat_inj]
def Ud (s : List UInt8) : Prop := Pure PP G h0 168 [S s] (.tuple [.agg (tbl s), .bool true])
theorem pure_run {F : FuncId} {args : List AV} {r : AV} (h : calls 100000 100000 (.func F) args h0 (fun v _ => v = r) = (r = r)) : Pure PP G h0 F args r :=
 Abz (Jk 100000 100000) (h.mpr rfl)
theorem Alb : Ud Hg := pure_run (by kernel_rfl)
theorem As6 : Ud Zr := pure_run (by kernel_rfl)
theorem Ak1 : Ud Ge := pure_run (by kernel_rfl)
theorem A2p : Ud Ly := pure_run (by kernel_rfl)
theorem a69 : Aa3 env 264 = some (256, 4) := by kernel_rfl
theorem t4' : (env.ty 4).map (·.size) = some 1 := by kernel_rfl
theorem t4 : ∃ ei, env.ty 4 = some ei ∧ ei.size = 1 := by
 have h := t4'
 cases e : env.ty 4 with
 | none => rw [e] at h; cases h
 | some ei => rw [e] at h; exact ⟨ei, rfl, Option.some.inj h⟩
theorem Bf4 {h : H} {b : P} {t : Tm} {z : Nat} {e : TypeId} {w : Bool} (ha : h.at b = .row t 256 z e w) {x : UInt8} {β : Bool} (hx : Az t x.toNat = .bool β) {k : KV} (hk : k (.bool β) h) :
 W1 (.func 215) [.ptr b 0, .int .u8 (Int.ofNat x.toNat)] h k := by
 refine A9d (n := 1) Bj (Bjt ?_)
 unfold Adp
 have e1 : Cj (.ptr b 0) h = some (.ptr b 0, h) := rfl
 rw [e1, Ae]
 have e2 : Cr env 264 (.ptr b 0) (Bc (.int .u8 (Int.ofNat x.toNat))) h = some (.ptr b x.toNat, h) := by
  show Jj env 264 b 0 x.toNat h = _
  unfold Jj
  rw [a69]
  obtain ⟨ei, h1, h2⟩ := t4
  have hb : Nat.ble (Nat.add x.toNat 1) 256 = true := Nat.ble_eq_true_of_le (by have := x.toNat_lt; show x.toNat + 1 ≤ 256; omega)
  show (Bool.rec (motive := fun _ => Option (AV × H)) none (Option.rec (motive := fun _ => Option (AV × H)) none (fun ei => some (.ptr b (Nat.add 0 (Nat.mul x.toNat ei.size)), h)) (env.ty 4)) (Nat.ble (Nat.add x.toNat 1) 256)) = _
  rw [hb, h1]
  show some (AV.ptr b (0 + x.toNat * ei.size), h) = _
  rw [h2, Nat.zero_add, Nat.mul_one]
 rw [e2, Ae]
 refine Ct ha x.toNat_lt ?_
 rw [hx, Bv]; exact hk
theorem Bf3 {h : H} {b : P} {t : Tm} {z : Nat} {e : TypeId} {w : Bool} {set : List UInt8} (ha : h.at b = .row t 256 z e w) (ht : ∀ x : UInt8, Az t x.toNat = .bool (decide (x ∈ set))) {k : KV} :
 ∀ (s : List UInt8) (n : Nat), s.length < n → k (S (s.dropWhile (· ∈ set))) h → (Ahq W1 k n).a1 s.length (enc s) (.ptr b 0) h
 | _, 0, hn, _ => absurd hn (Nat.not_lt_zero _)
 | [], n + 1, _, hk => by
  refine Atx ?_
  unfold Yw
  exact Bl rfl hk
 | x :: s, n + 1, hn, hk => by
  refine Atx ?_
  unfold Yw
  refine Cd (by rw [Fh]; simp) ?_
  refine Ch (Nat.zero_lt_succ _) ?_
  refine Bf4 ha (ht x) ?_
  rw [Bv]
  rw [Bq]
  refine Bb (fun e => ?_) (fun e => ?_)
  · have e : ¬ x ∈ set := by simpa using e
    have : (x :: s).dropWhile (· ∈ set) = x :: s := by simp [e]
    rw [this] at hk; exact hk
  · have e : x ∈ set := by simpa using e
    have : (x :: s).dropWhile (· ∈ set) = s.dropWhile (· ∈ set) := by simp [e]
    rw [this] at hk
    exact Fq (s := x :: s) (Nat.le_add_left 1 _) (Bf3 ha ht s n (Nat.lt_of_succ_lt_succ hn) hk)
theorem To {s t : List UInt8} (h : s ≠ t) : Bk s.length (enc s) t.length (enc t) = false := by rw [Cq, decide_eq_false h]
theorem Blu {set : List UInt8} (hs : Ud set) (h2 : 2 ≤ set.length) (s : List UInt8) : Pure PP G h0 172 [S s, S set] (S (s.dropWhile (· ∈ set))) := by
 refine A9j (n := 1) Bj (Bjz ?_)
 unfold Ad2
 have e0 : Bk set.length (enc set) 0 0 = false := To (t := []) (fun h => by subst h; simp at h2)
 rw [e0]
 have e1 : Bk s.length (enc s) 0 0 = decide (s = []) := Cq (t := [])
 rw [e1]
 refine Jg ?_
 refine Bb (fun e => ?_) (fun e => ?_)
 · have e : s = [] := by simpa using e
   subst e; rfl
 · have e : ¬ s = [] := by simpa using e
   refine Gq (fun e => ?_) (fun _ => ?_)
   · rw [Fi, beq_iff_eq] at e
     have : set.length = 1 := by have := Int.ofNat.inj e; exact this
     omega
   · refine Bl rfl ?_
     refine Dn hs ?_
     rw [Ed, Ek, Bv]
     refine Ec ?_
     refine Ah4 (zs := List.replicate 256 (.bool false)) (by simp) (Xo _) (by omega) ?_
     intro h' ha
     refine Cd rfl ?_
     refine A9c (n := s.length + 2) Bj (Bjs ?_)
     unfold Ado
     refine Bf3 (set := set) ha (fun x => ?_) s _ (by omega) ?_
     · rw [Ao, if_pos ⟨Nat.zero_le _, by rw [Xo]; have := x.toNat_lt; omega⟩, Nat.sub_zero]
       exact Amb set x
     · exact Ce.mpr rfl
end Go.Den
namespace Go.Den
open Go.RowKit
set_option maxRecDepth 100000
theorem wrap64 {n : Int} (h1 : -9223372036854775808 ≤ n) (h2 : n ≤ 9223372036854775807) : wrap .i64 n = n := by
 rw [Fx]
 simp [IntKind.wrap, IntKind.bits, IntKind.signed]
 omega
def Cg (s set : List UInt8) : Nat := (s.takeWhile (· ∈ set)).length
theorem Lh (s set : List UInt8) : Cg s set ≤ s.length := by
 unfold Cg
 exact (List.takeWhile_sublist _).length_le
theorem Au5 (s set : List UInt8) : s.length = Cg s set + (s.dropWhile (· ∈ set)).length := by
 have := congrArg List.length (List.takeWhile_append_dropWhile (p := (· ∈ set)) (l := s))
 rw [List.length_append] at this
 exact this.symm
theorem Aqi {set : List UInt8} (hs : Ud set) (h2 : 2 ≤ set.length) (s : List UInt8) (hl : s.length ≤ 4611686018427387904) : Pure PP G h0 116 [S s, S set] (.int .i64 (Int.ofNat (Cg s set))) := by
 refine A96 (n := 1) Bj (Bkm ?_)
 unfold Ae1
 refine Dn (Blu hs h2 s) ?_
 rw [Ce, Ar, Ul]
 have e := Au5 s set
 have : Int.ofNat s.length - Int.ofNat (s.dropWhile (· ∈ set)).length = Int.ofNat (Cg s set) := by
  show (s.length : Int) - ((s.dropWhile (· ∈ set)).length : Int) = (Cg s set : Int)
  omega
 rw [this]
 have hr := Lh s set
 rw [wrap64 (by show _ ≤ ((Cg s set : Nat) : Int); omega) (by show ((Cg s set : Nat) : Int) ≤ _; omega)]
def Xj (L : List UInt8) (x : UInt8) : Int := Np x.toNat L.length (enc L) 0
theorem Zm (L : List UInt8) (x : UInt8) : (Xj L x < 0) ↔ x ∉ L := by
 unfold Xj
 rw [Ss (by have := x.toNat_lt; omega)]
 have ex : x.toNat.toUInt8 = x := by rw [Nat.toUInt8, UInt8.ofNat_toNat]
 rw [ex]
 cases h : L.findIdx? (· == x) with
 | none =>
  rw [List.findIdx?_eq_none_iff] at h
  constructor
  · intro _ hm; have := h x hm; simp at this
  · intro _; show (-1 : Int) < 0; omega
 | some j =>
  have hj := List.findIdx?_eq_some_iff_getElem.1 h
  obtain ⟨hlt, he, _⟩ := hj
  constructor
  · intro hn; exfalso
    have hn : ((0 + j : Nat) : Int) < 0 := hn
    omega
  · intro hm; exact absurd (by rw [← (beq_iff_eq.1 he)]; exact List.getElem_mem hlt) hm
theorem Blm (L : List UInt8) (x : UInt8) : Pure PP G h0 257 [S L, .int .u8 (Int.ofNat x.toNat)] (.int .i64 (Xj L x)) := by
 refine A82 ?_
 refine Cd rfl ?_
 have hx : Nat.ble x.toNat 255 = true := Nat.ble_eq_true_of_le (by have := x.toNat_lt; omega)
 have e : He .indexByte [S L, .int .u8 (Int.ofNat x.toNat)] h0 = some (.int .i64 (Xj L x), h0) := by
  show (Bool.rec (motive := fun _ => Option (AV × H)) none (some (.int .i64 (Np x.toNat L.length (enc L) 0), h0)) (Nat.ble x.toNat 255)) = _
  rw [hx]; rfl
 rw [e, Ae]
theorem Blp (L : List UInt8) (x : UInt8) : Pure PP G h0 207 [S L, .int .u8 (Int.ofNat x.toNat)] (.int .i64 (Xj L x)) := by
 refine A9f (n := 1) Bj (Bjv ?_)
 unfold Ads
 refine Dn (Blm L x) ?_
 rw [Au]
theorem A8a (L : List UInt8) (x : UInt8) : Pure PP G h0 160 [S L, .int .u8 (Int.ofNat x.toNat)] (.int .i64 (Xj L x)) := by
 refine A9q (n := 1) Bj (Bj6 ?_)
 unfold Aee
 refine Dn (Blp L x) ?_
 rw [Au]
def Oq : List UInt8 → List UInt8
 | [] => []
 | c :: r => if c = 43 ∨ c = 45 then r else c :: r
def Qb (s L : List UInt8) : List UInt8 × Bool := match s with
 | [] => ([], false)
 | x :: r => if x ∈ L then (if Cg (Oq r) Hg = 0 then (x :: r, false) else ((Oq r).drop (Cg (Oq r) Hg), true)) else (x :: r, false)
theorem Azm {x : UInt8} {L : List UInt8} (h : x ∈ L) (r : List UInt8) : Qb (x :: r) L = (if Cg (Oq r) Hg = 0 then (x :: r, false) else ((Oq r).drop (Cg (Oq r) Hg), true)) := if_pos h
theorem Ai0 {x : UInt8} {L : List UInt8} (h : x ∉ L) (r : List UInt8) : Qb (x :: r) L = (x :: r, false) := if_neg h
theorem Aq6 (r : List UInt8) : (Oq r).length ≤ r.length := by
 cases r with
 | nil => exact Nat.le_refl _
 | cons c r =>
  show (if c = 43 ∨ c = 45 then r else c :: r).length ≤ _
  split
  · exact Nat.le_succ _
  · exact Nat.le_refl _
theorem toNat_eq (c : UInt8) (n : Nat) (hn : n < 256) : Ba (Int.ofNat c.toNat) (Int.ofNat n) = decide (c = UInt8.ofNat n) := by
 rw [Fi, Bool.eq_iff_iff, beq_iff_eq, decide_eq_true_eq]
 constructor
 · intro h
   have h : c.toNat = n := Int.ofNat.inj h
   subst h; simp
 · intro h; subst h
   show Int.ofNat _ = Int.ofNat _
   congr 1
   simp; omega
theorem Fk (s : List UInt8) : Bk s.length (enc s) 0 0 = decide (s = []) := Cq (t := [])
theorem Kr (c : UInt8) (r : List UInt8) : Bk (c :: r).length (enc (c :: r)) 0 0 = false := To (t := []) (by simp)
end Go.Den
