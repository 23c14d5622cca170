/-
  A part of the proof.
-/
import Derived.Test.YtcnmehbkpaoolaaGreatDoorRunE
import Derived.Test.YtcnmehbkpaoolaaGreatDoorDenQ
import Derived.KernelRfl
noncomputable section
namespace Go.Den
open Go.RowKit
set_option maxRecDepth 100000
def A92 : List (Ob FT) := List.replicate 12 .dead
def Ax7 : List Loc := [⟨0, 0, 0⟩, ⟨1, 0, 0⟩, ⟨2, 0, 0⟩, ⟨3, 0, 0⟩, ⟨4, 0, 0⟩, ⟨5, 0, 0⟩, ⟨6, 0, 0⟩, ⟨7, 0, 0⟩, ⟨8, 0, 0⟩, ⟨9, 0, 0⟩, ⟨10, 0, 0⟩, ⟨11, 0, 0⟩]
theorem Bfw (w : World) : Sim (mu0 Ax7) (Vq A92) w := Af0 rfl rfl fun i o c h _ => by
  have : o = .dead := by
    have := List.mem_of_getElem? h
    exact List.eq_of_mem_replicate this
  subst this; trivial
theorem A3w : Fp (mu0 Ax7) G := Zg fun g hg => by
  have hg : g < 12 := hg
  refine ⟨⟨g, 0, 0⟩, ?_, rfl, rfl⟩
  match g, hg with
  | 0, _ | 1, _ | 2, _ | 3, _ | 4, _ | 5, _ | 6, _ | 7, _ | 8, _ | 9, _ | 10, _ | 11, _ => rfl
abbrev h0 : H := Vq A92
abbrev PP : Program := Proofs.Tryz.prog
abbrev W1 : CF := SW PP G
theorem use {F : FuncId} {args : List AV} {r : AV} (hp : Pure PP G h0 F args r) (ha : Na args = true) (hr : plain r = true) {h : H} {k : KV} (hk : k r h) : W1 (.func F) args h k := Aqc Bfw A3w rfl hp ha hr hk
theorem Ek {F : FuncId} {args : List AV} {r : AV} (hp : Pure PP G h0 F args r) {h : H} {k : KV} (hk : k r h) (ha : Na args = true := by rfl) (hr : plain r = true := by rfl) : W1 (.func F) args h k := use hp ha hr hk
theorem Bi1 (s t : List UInt8) : Pure PP G h0 171 [S s, S t] (.bool (decide (s.take t.length = t))) := by
  refine A7m (n := 1) Ca (Bhe ?_)
  unfold Acy
  refine Lp (fun e => ?_) (fun e => ?_)
  · rw [Tu, decide_eq_true_eq] at e
    have e : t.length ≤ s.length := Int.ofNat_le.1 e
    refine Ajk e ?_
    rw [En]
  · rw [Tu, decide_eq_false_iff_not] at e
    have e : ¬ t.length ≤ s.length := fun h => e (Int.ofNat_le.2 h)
    have : ¬ s.take t.length = t := fun h => by
      have := congrArg List.length h
      simp at this; omega
    show AV.bool false = _
    rw [decide_eq_false this]
theorem A6k (s t : List UInt8) : Pure PP G h0 115 [S s, S t] (.bool (decide (s.take t.length = t))) := by
  refine A73 (n := 1) Ca (Bhv ?_)
  exact Ek (Bi1 s t) (rfl : AV.bool _ = AV.bool _)
def hx1 : List UInt8 := [48, 120]
def hx2 : List UInt8 := [48, 88]
def Nn (s : List UInt8) : Bool := decide (s.take 2 = hx1) || decide (s.take 2 = hx2)
end Go.Den
namespace Go.Den
open Go.RowKit
set_option maxRecDepth 100000
def Lb : List UInt8 := [48, 49, 50, 51, 52, 53, 54, 55, 56, 57]
def Aql : List UInt8 := [48, 49, 50, 51, 52, 53, 54, 55]
def On : List UInt8 := [48, 49, 50, 51, 52, 53, 54, 55, 56, 57, 97, 98, 99, 100, 101, 102, 65, 66, 67, 68, 69, 70]
def Hf : List UInt8 := [117, 85, 108, 76]
def tbl (s : List UInt8) : List AV := (List.range 256).map fun i => .bool (s.any fun b => b.toNat == i)
theorem Wj (s : List UInt8) : (tbl s).length = 256 := by unfold tbl; simp
theorem Aki (s : List UInt8) (x : UInt8) : (tbl s).getD x.toNat .undef = .bool (decide (x ∈ s)) := by
  have hx := x.toNat_lt
  unfold tbl
  rw [List.getD_eq_getElem?_getD, List.getElem?_map, List.getElem?_range (by omega)]
  simp only [Option.map_some, Option.getD_some]
  congr 1
  rw [Bool.eq_iff_iff]
  simp [UInt8.toNat_inj]
def Vm (s : List UInt8) : Prop := Pure PP G h0 168 [S s] (.tuple [.agg (tbl s), .bool true])
theorem pure_run {F : FuncId} {args : List AV} {r : AV} (h : calls 100000 100000 (.func F) args h0 (fun v _ => v = r) = (r = r)) : Pure PP G h0 F args r :=
  Axt (Um 100000 100000) (h.mpr rfl)
theorem A55 : Vm Lb := pure_run (by kernel_rfl)
theorem A2k : Vm Aql := pure_run (by kernel_rfl)
theorem A3r : Vm On := pure_run (by kernel_rfl)
theorem A0p : Vm Hf := pure_run (by kernel_rfl)
theorem a69 : Abs env 264 = some (256, 4) := by kernel_rfl
theorem t4' : (env.ty 4).map (·.size) = some 1 := by kernel_rfl
theorem t4 : ∃ ei, env.ty 4 = some ei ∧ ei.size = 1 := by
  have h := t4'
  cases e : env.ty 4 with
  | none => rw [e] at h; cases h
  | some ei => rw [e] at h; exact ⟨ei, rfl, Option.some.inj h⟩
theorem Bco {h : H} {b : P} {t : Tm} {z : Nat} {e : TypeId} {w : Bool} (ha : h.at b = .row t 256 z e w) {x : UInt8} {β : Bool} (hx : Cg t x.toNat = .bool β) {k : KV} (hk : k (.bool β) h) :
    W1 (.func 215) [.ptr b 0, .int .u8 (Int.ofNat x.toNat)] h k := by
  refine A7c (n := 1) Ca (Bg4 ?_)
  unfold Acf
  have e1 : Cz (.ptr b 0) h = some (.ptr b 0, h) := rfl
  rw [e1, Ag]
  have e2 : Eg env 264 (.ptr b 0) (Bn (.int .u8 (Int.ofNat x.toNat))) h = some (.ptr b x.toNat, h) := by
    show Mh env 264 b 0 x.toNat h = _
    unfold Mh
    rw [a69]
    obtain ⟨ei, h1, h2⟩ := t4
    have hb : Nat.ble (Nat.add x.toNat 1) 256 = true := Nat.ble_eq_true_of_le (by have := x.toNat_lt; show x.toNat + 1 ≤ 256; omega)
    show (Bool.rec (motive := fun _ => Option (AV × H)) none (Option.rec (motive := fun _ => Option (AV × H)) none (fun ei => some (.ptr b (Nat.add 0 (Nat.mul x.toNat ei.size)), h)) (env.ty 4)) (Nat.ble (Nat.add x.toNat 1) 256)) = _
    rw [hb, h1]
    show some (AV.ptr b (0 + x.toNat * ei.size), h) = _
    rw [h2, Nat.zero_add, Nat.mul_one]
  rw [e2, Ag]
  refine Yw ha x.toNat_lt ?_
  rw [hx, Ay]; exact hk
theorem Bcn {h : H} {b : P} {t : Tm} {z : Nat} {e : TypeId} {w : Bool} {set : List UInt8} (ha : h.at b = .row t 256 z e w) (ht : ∀ x : UInt8, Cg t x.toNat = .bool (decide (x ∈ set))) {k : KV} :
    ∀ (s : List UInt8) (n : Nat), s.length < n → k (S (s.dropWhile (· ∈ set))) h → (Agb W1 k n).a1 s.length (enc s) (.ptr b 0) h
  | _, 0, hn, _ => absurd hn (Nat.not_lt_zero _)
  | [], n + 1, _, hk => by
    refine Ara ?_
    unfold Xv
    exact Am rfl hk
  | x :: s, n + 1, hn, hk => by
    refine Ara ?_
    unfold Xv
    refine Bo (by rw [Gd]; simp) ?_
    refine Iv (Nat.zero_lt_succ _) ?_
    refine Bco ha (ht x) ?_
    rw [Ay]
    rw [Bv]
    refine Bk (fun e => ?_) (fun e => ?_)
    · have e : ¬ x ∈ set := by simpa using e
      have : (x :: s).dropWhile (· ∈ set) = x :: s := by simp [e]
      rw [this] at hk; exact hk
    · have e : x ∈ set := by simpa using e
      have : (x :: s).dropWhile (· ∈ set) = s.dropWhile (· ∈ set) := by simp [e]
      rw [this] at hk
      exact Aey (s := x :: s) (Nat.le_add_left 1 _) (Bcn ha ht s n (Nat.lt_of_succ_lt_succ hn) hk)
theorem Xp {s t : List UInt8} (h : s ≠ t) : Bm s.length (enc s) t.length (enc t) = false := by rw [En, decide_eq_false h]
theorem Bi0 {set : List UInt8} (hs : Vm set) (h2 : 2 ≤ set.length) (s : List UInt8) : Pure PP G h0 172 [S s, S set] (S (s.dropWhile (· ∈ set))) := by
  refine A7l (n := 1) Ca (Bhd ?_)
  unfold Acx
  have e0 : Bm set.length (enc set) 0 0 = false := Xp (t := []) (fun h => by subst h; simp at h2)
  rw [e0]
  have e1 : Bm s.length (enc s) 0 0 = decide (s = []) := En (t := [])
  rw [e1]
  refine Fk ?_
  refine Bk (fun e => ?_) (fun e => ?_)
  · have e : s = [] := by simpa using e
    subst e; rfl
  · have e : ¬ s = [] := by simpa using e
    refine Lp (fun e => ?_) (fun _ => ?_)
    · rw [Ez, beq_iff_eq] at e
      have : set.length = 1 := by have := Int.ofNat.inj e; exact this
      omega
    · refine Am rfl ?_
      refine Ek hs ?_
      rw [Ic, Ib, Ay]
      refine Dk ?_
      refine Agn (zs := List.replicate 256 (.bool false)) (by simp) (Wj _) (by omega) ?_
      intro h' ha
      refine Bo rfl ?_
      refine A7b (n := s.length + 2) Ca (Bg3 ?_)
      unfold Ace
      refine Bcn (set := set) ha (fun x => ?_) s _ (by omega) ?_
      · rw [Bl, if_pos ⟨Nat.zero_le _, by rw [Wj]; have := x.toNat_lt; omega⟩, Nat.sub_zero]
        exact Aki set x
      · exact Di.mpr rfl
end Go.Den
namespace Go.Den
open Go.RowKit
set_option maxRecDepth 100000
theorem wrap64 {n : Int} (h1 : -9223372036854775808 ≤ n) (h2 : n ≤ 9223372036854775807) : wrap .i64 n = n := by
  rw [Ey]
  simp [IntKind.wrap, IntKind.bits, IntKind.signed]
  omega
def Sc (s set : List UInt8) : Nat := (s.takeWhile (· ∈ set)).length
theorem Avg (s set : List UInt8) : Sc s set ≤ s.length := by
  unfold Sc
  exact (List.takeWhile_sublist _).length_le
theorem Asm (s set : List UInt8) : s.length = Sc s set + (s.dropWhile (· ∈ set)).length := by
  have := congrArg List.length (List.takeWhile_append_dropWhile (p := (· ∈ set)) (l := s))
  rw [List.length_append] at this
  exact this.symm
theorem A6j {set : List UInt8} (hs : Vm set) (h2 : 2 ≤ set.length) (s : List UInt8) (hl : s.length ≤ 4611686018427387904) : Pure PP G h0 116 [S s, S set] (.int .i64 (Int.ofNat (Sc s set))) := by
  refine A72 (n := 1) Ca (Bhu ?_)
  unfold Adp
  refine Ek (Bi0 hs h2 s) ?_
  rw [Di, As, Qp]
  have e := Asm s set
  have : Int.ofNat s.length - Int.ofNat (s.dropWhile (· ∈ set)).length = Int.ofNat (Sc s set) := by
    show (s.length : Int) - ((s.dropWhile (· ∈ set)).length : Int) = (Sc s set : Int)
    omega
  rw [this]
  have hr := Avg s set
  rw [wrap64 (by show _ ≤ ((Sc s set : Nat) : Int); omega) (by show ((Sc s set : Nat) : Int) ≤ _; omega)]
theorem toNat_eq (c : UInt8) (n : Nat) (hn : n < 256) : Av (Int.ofNat c.toNat) (Int.ofNat n) = decide (c = UInt8.ofNat n) := by
  rw [Ez, Bool.eq_iff_iff, beq_iff_eq, decide_eq_true_eq]
  constructor
  · intro h
    have h : c.toNat = n := Int.ofNat.inj h
    subst h; simp
  · intro h; subst h
    show Int.ofNat _ = Int.ofNat _
    congr 1
    simp; omega
theorem Ko (s : List UInt8) : Bm s.length (enc s) 0 0 = decide (s = []) := En (t := [])
theorem Aik (c : UInt8) (r : List UInt8) : Bm (c :: r).length (enc (c :: r)) 0 0 = false := Xp (t := []) (by simp)
end Go.Den
namespace Go.Den
open Go.RowKit
set_option maxRecDepth 100000
theorem eqN (n : Nat) : Av (Int.ofNat n) (Int.ofNat 0) = decide (n = 0) := by
  rw [Ez, Bool.eq_iff_iff, beq_iff_eq, decide_eq_true_eq]
  exact ⟨fun h => Int.ofNat.inj h, fun h => by rw [h]⟩
end Go.Den
namespace Go.Den
open Go.RowKit
set_option maxRecDepth 100000
theorem Xk (n : Int) {m : Nat} (hm : 0 < m) : -(m : Int) < n.tmod m ∧ n.tmod m < m := by
  constructor
  · have := Int.lt_tmod_of_pos n (show (0 : Int) < m by omega)
    exact this
  · exact Int.tmod_lt_of_pos n (show (0 : Int) < m by omega)
theorem c23 (n : Int) {m : Nat} (hm : 0 < m) (hb : m ≤ 1000000) : ∃ r, r < m ∧ Pure PP G h0 23 [.int .i64 n, .int .i64 (Int.ofNat m)] (.int .i64 (Int.ofNat r)) := by
  obtain ⟨h1, h2⟩ := Xk n hm
  have h3 : 0 ≤ (n.tmod m + m).tmod m := Int.tmod_nonneg _ (by omega)
  have h4 := (Xk (n.tmod m + m) hm).2
  refine ⟨((n.tmod m + m).tmod m).toNat, by omega, ?_⟩
  refine w23 (n := 1) Ca (g23 ?_)
  unfold Ak9
  have e0 : Av (Int.ofNat m) (Int.ofNat 0) = false := by rw [eqN, decide_eq_false (by omega)]
  unfold Vb
  rw [e0]
  show fI (n.tmod (m : Int)) _
  rw [As, Tv, As]
  have w1 : wrap .i64 (n.tmod (m : Int) + Int.ofNat m) = n.tmod m + m := wrap64 (by show _ ≤ n.tmod (m : Int) + (m : Int); omega) (by show n.tmod (m : Int) + (m : Int) ≤ _; omega)
  rw [w1]
  show fI ((n.tmod m + m).tmod (m : Int)) _
  rw [As]
  show AV.int _ _ = AV.int _ _
  congr 1
  show _ = ((((n.tmod m + m).tmod m).toNat : Nat) : Int)
  omega
def Dw (s set : List UInt8) : List UInt8 := (s.reverse.dropWhile (· ∈ set)).reverse
theorem Ais (s set : List UInt8) (x : UInt8) : Dw (s ++ [x]) set = if x ∈ set then Dw s set else s ++ [x] := by
  unfold Dw
  rw [List.reverse_append, List.reverse_singleton, List.singleton_append, List.dropWhile_cons]
  by_cases h : x ∈ set <;> simp [h]
theorem Ate {h : H} {b : P} {t : Tm} {z : Nat} {e : TypeId} {w : Bool} {set : List UInt8} (ha : h.at b = .row t 256 z e w) (ht : ∀ x : UInt8, Cg t x.toNat = .bool (decide (x ∈ set))) {k : KV} :
    ∀ (n : Nat) (s : List UInt8), s.length ≤ 4611686018427387904 → s.length < n → k (S (Dw s set)) h → (Age W1 k n).a1 s.length (enc s) (.ptr b 0) h
  | 0, _, _, hn, _ => absurd hn (Nat.not_lt_zero _)
  | n + 1, s, hl, hn, hk => by
    refine A3a ?_
    unfold Acz
    rcases List.eq_nil_or_concat s with rfl | ⟨r, x, rfl⟩
    · exact Am rfl hk
    · rw [List.concat_eq_append] at hl hn hk ⊢
      have hlen : (r ++ [x]).length = r.length + 1 := by simp
      refine Bo (by rw [Gd]; simp) ?_
      rw [Qp]
      have w1 : wrap .i64 (Int.ofNat (r ++ [x]).length - Int.ofNat 1) = Int.ofNat r.length := by
        rw [hlen]
        have : Int.ofNat (r.length + 1) - Int.ofNat 1 = Int.ofNat r.length := by show ((r.length + 1 : Nat) : Int) - ((1 : Nat) : Int) = (r.length : Int); omega
        rw [this, wrap64 (by show _ ≤ ((r.length : Nat) : Int); omega) (by show ((r.length : Nat) : Int) ≤ _; omega)]
      rw [As, w1, Be]
      refine Iv (by rw [hlen]; omega) ?_
      have hx : (r ++ [x])[r.length]'(by rw [hlen]; omega) = x := by simp
      rw [hx]
      refine Bco ha (ht x) ?_
      rw [Ay, Bv]
      rw [Ais] at hk
      refine Bk (fun e => ?_) (fun e => ?_)
      · have e : ¬ x ∈ set := by simpa using e
        rw [if_neg e] at hk; exact hk
      · have e : x ∈ set := by simpa using e
        rw [if_pos e] at hk
        rw [As, Be]
        refine Ajk (by rw [hlen]; omega) ?_
        have ht' : (r ++ [x]).take r.length = r := by simp
        rw [ht']
        exact Ate ha ht n r (by omega) (by omega) hk
end Go.Den
namespace Go.Den
set_option maxRecDepth 100000
theorem Ang {s set : List UInt8} (h : ∀ x ∈ s, x ∉ set) : Dw s set = s := by
  unfold Dw
  have : s.reverse.dropWhile (· ∈ set) = s.reverse := by
    cases e : s.reverse with
    | nil => rfl
    | cons c q =>
      have hc : c ∉ set := h c (by rw [← List.mem_reverse, e]; simp)
      simp [hc]
  rw [this, List.reverse_reverse]
end Go.Den
namespace Go.Den
open Go.RowKit
set_option maxRecDepth 100000
theorem Te {a b : Bool} {h : H} {Q : (Bool → H → Prop) → Prop} {k : Bool → H → Prop} (hq : ∀ k', k' b h → Q k') (hk : k (a || b) h) : Al (fun k1 => gate false a (Q k1) (k1 true h)) k := by
  cases a with
  | true => exact hk
  | false => exact hq k hk
theorem Ip {a b : Bool} {h : H} {Q : (Bool → H → Prop) → Prop} {k : Bool → H → Prop} (hq : ∀ k', k' b h → Q k') (hk : k (a && b) h) : Al (fun k1 => gate true a (Q k1) (k1 false h)) k := by
  cases a with
  | true => exact hq k hk
  | false => exact hk
theorem Db {α : Type} {x : α} {K : α → Prop} : oV (some x) K = K x := rfl
theorem Abq (b : Bool) : Afe b b = true := by cases b <;> rfl
theorem Dv {m : Nat} (h : m ≤ 9223372036854775807) : wrap .i64 (Int.ofNat m) = Int.ofNat m := wrap64 (by show _ ≤ ((m : Nat) : Int); omega) (by show ((m : Nat) : Int) ≤ _; omega)
end Go.Den
