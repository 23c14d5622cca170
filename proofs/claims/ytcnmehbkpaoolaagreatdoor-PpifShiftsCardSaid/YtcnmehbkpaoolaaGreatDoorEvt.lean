/-
  A part of the proof.
-/
import Derived.Test.YtcnmehbkpaoolaaGreatDoorLxd
namespace Go.Den
open Go.RowKit
open Go.Pre (V Ir vz Ew Kg Jo Jm Hx Ld Wc Ad7 evB Kc unary Abm Vu)
set_option maxRecDepth 100000
abbrev lvT (t : Cb) : Nat := Go.Pre.lvl t
abbrev ndT (t : Cb) (a : V) : Bool := Go.Pre.need t a
abbrev twT (t : Cb) (a b : V) (d : Bool) : Option V := Go.Pre.two t a b d
abbrev CT' := Bool → List Cb → Go.Pre.R V Cb
def Od (C : CT') (A : List Cb) (f : Bool → Option V) : Prop := ∀ d r, unP C d (A ++ r) = (f d).map fun v => (v, r)
def lv0 : List Cb → Prop
  | [] => True
  | t :: _ => lvT t = 0
theorem Ao5 {r : List Cb} (h : lv0 r) (l : Nat) : Go.Pre.stops Go.Pre.lvl l r = true := by
  cases r with
  | nil => rfl
  | cons t r => rw [Go.Pre.Sa, decide_eq_true (show Go.Pre.lvl t = 0 from h), Bool.true_or]
theorem Au5 {t : Cb} {r : List Cb} {l : Nat} (h : lvT t < l) : ∀ m, l ≤ m → Go.Pre.stops Go.Pre.lvl m (t :: r) = true := fun m hm => by
  rw [Go.Pre.Sa, decide_eq_true (show Go.Pre.lvl t < m by have : Go.Pre.lvl t < l := h; omega), Bool.or_true]
theorem Ad8 {C : CT'} {N least : Nat} {d : Bool} {a : V} {t : Cb} {r : List Cb} (h0 : lvT t ≠ 0) (hl : least ≤ lvT t) : loP C (N + 1) least d a (t :: r) = (evP C N (lvT t + 1) (d && ndT t a) r).bind fun p => (twT t a p.1 d).bind fun a' => loP C N least d a' p.2 := by
  refine Go.Pre.Agw ?_
  rw [Go.Pre.Sa, decide_eq_false (show ¬ Go.Pre.lvl t = 0 from h0), decide_eq_false (show ¬ Go.Pre.lvl t < least by have : least ≤ Go.Pre.lvl t := hl; omega)]
  simp
theorem Amk {C : CT'} {A : List Cb} {f : Bool → Option V} (hA : Od C A f) {N least : Nat} {d : Bool} {r : List Cb} : evP C (N + 1) least d (A ++ r) = (f d).bind fun a => loP C N least d a r := by
  rw [show evP C (N + 1) least d (A ++ r) = (unP C d (A ++ r)).bind fun p => loP C N least d p.1 p.2 from Go.Pre.Ar8, hA d r]
  cases f d <;> rfl
theorem Aep {C : CT'} {A : List Cb} {f : Bool → Option V} (hA : Od C A f) {N least : Nat} {d : Bool} {r : List Cb} (hr : Go.Pre.stops Go.Pre.lvl least r = true) : evP C (N + 1) least d (A ++ r) = (f d).map fun v => (v, r) := by
  rw [Amk hA]
  cases f d with
  | none => rfl
  | some a => exact Go.Pre.Kt hr
def f2 (t : Cb) (f g : Bool → Option V) (d : Bool) : Option V := (f d).bind fun a => (g (d && ndT t a)).bind fun b => twT t a b d
section
variable {C : CT'} {A B D : List Cb} {f g e : Bool → Option V} {t t1 t2 : Cb} (hA : Od C A f) (hB : Od C B g) (hD : Od C D e)
include hA
theorem bd1 {N least : Nat} {d : Bool} {r : List Cb} (hN : 1 ≤ N) (hr : Go.Pre.stops Go.Pre.lvl least r = true) : evP C N least d (A ++ r) = (f d).map fun v => (v, r) := by
  obtain ⟨N, rfl⟩ : ∃ m, N = m + 1 := ⟨N - 1, by omega⟩
  exact Aep hA hr
include hB
theorem bd2 (ht : lvT t ≠ 0) {N least : Nat} {d : Bool} {r : List Cb} (hN : 3 ≤ N) (hl : least ≤ lvT t) (hr : ∀ m, least ≤ m → Go.Pre.stops Go.Pre.lvl m r = true) : evP C N least d (A ++ t :: (B ++ r)) = (f2 t f g d).map fun v => (v, r) := by
  obtain ⟨N, rfl⟩ : ∃ m, N = m + 3 := ⟨N - 3, by omega⟩
  rw [Amk hA]
  unfold f2
  cases f d with
  | none => rfl
  | some a =>
    show loP C (N + 2) least d a (t :: (B ++ r)) = _
    rw [Ad8 ht hl, Aep hB (hr _ (by omega))]
    simp only [Option.bind_some]
    cases g (d && ndT t a) with
    | none => rfl
    | some b =>
      simp only [Option.map_some, Option.bind_some]
      cases twT t a b d with
      | none => rfl
      | some v => exact Go.Pre.Kt (hr _ (Nat.le_refl _))
include hD
theorem Bje (h1 : lvT t1 ≠ 0) (h12 : lvT t1 < lvT t2) {N least : Nat} {d : Bool} {r : List Cb} (hN : 5 ≤ N) (hl : least ≤ lvT t1) (hr : ∀ m, least ≤ m → Go.Pre.stops Go.Pre.lvl m r = true) : evP C N least d (A ++ t1 :: (B ++ t2 :: (D ++ r))) = (f2 t1 f (f2 t2 g e) d).map fun v => (v, r) := by
  obtain ⟨N, rfl⟩ : ∃ m, N = m + 2 := ⟨N - 2, by omega⟩
  rw [Amk hA]
  show _ = Option.map _ ((f d).bind fun a => (f2 t2 g e (d && ndT t1 a)).bind fun b => twT t1 a b d)
  cases f d with
  | none => rfl
  | some a =>
    show loP C (N + 1) least d a (t1 :: (B ++ t2 :: (D ++ r))) = _
    rw [Ad8 h1 hl, bd2 hB hD (t := t2) (by omega) (by omega) (by omega) fun m hm => hr m (by omega)]
    simp only [Option.bind_some]
    cases f2 t2 g e (d && ndT t1 a) with
    | none => rfl
    | some b =>
      simp only [Option.map_some, Option.bind_some]
      cases twT t1 a b d with
      | none => rfl
      | some v => exact Go.Pre.Kt (hr _ (Nat.le_refl _))
theorem Bjf (h1 : lvT t1 ≠ 0) (h2 : lvT t2 ≠ 0) (h21 : lvT t2 ≤ lvT t1) {N least : Nat} {d : Bool} {r : List Cb} (hN : 5 ≤ N) (hl : least ≤ lvT t2) (hr : ∀ m, least ≤ m → Go.Pre.stops Go.Pre.lvl m r = true) : evP C N least d (A ++ t1 :: (B ++ t2 :: (D ++ r))) = (f2 t2 (f2 t1 f g) e d).map fun v => (v, r) := by
  obtain ⟨N, rfl⟩ : ∃ m, N = m + 4 := ⟨N - 4, by omega⟩
  rw [Amk hA]
  show _ = Option.map _ ((((f d).bind fun a => (g (d && ndT t1 a)).bind fun b => twT t1 a b d)).bind fun a => (e (d && ndT t2 a)).bind fun b => twT t2 a b d)
  cases f d with
  | none => rfl
  | some a =>
    show loP C (N + 3) least d a (t1 :: (B ++ t2 :: (D ++ r))) = _
    rw [Ad8 h1 (by omega), Aep hB (Au5 (by omega) _ (Nat.le_refl _))]
    simp only [Option.bind_some]
    cases g (d && ndT t1 a) with
    | none => rfl
    | some b =>
      simp only [Option.map_some, Option.bind_some]
      cases twT t1 a b d with
      | none => rfl
      | some v =>
        simp only [Option.bind_some]
        rw [Ad8 h2 hl, Aep hD (hr _ (by omega))]
        cases e (d && ndT t2 v) with
        | none => rfl
        | some c =>
          simp only [Option.map_some, Option.bind_some]
          cases twT t2 v c d with
          | none => rfl
          | some w => exact Go.Pre.Kt (hr _ (Nat.le_refl _))
end
theorem As4 (n : Nat) (d : Bool) (ts : List Cb) : cdP (n + 1) d ts = (evP (cdP n) (2 * ts.length + 1) 1 d ts).bind fun p => Go.Pre.Lv p.2 [63] (fun r => (cdP n (d && !vz p.1) r).bind fun q => Go.Pre.Lv q.2 [58] (fun r2 => (cdP n (d && vz p.1) r2).map fun s => (Ew p.1 q.1 s.1, s.2)) none) (some p) := rfl
theorem Zq {n : Nat} {d : Bool} {ts r : List Cb} {o : Option V} (h : evP (cdP n) (2 * ts.length + 1) 1 d ts = o.map fun v => (v, r)) (hr : ∀ t r', r = t :: r' → t ≠ Go.Pre.P [63]) : cdP (n + 1) d ts = o.map fun v => (v, r) := by
  rw [As4, h]
  cases o with
  | none => rfl
  | some v =>
    cases r with
    | nil => rfl
    | cons t r =>
      rw [Option.map_some, Option.bind_some, Go.Pre.Wp (hr t r rfl)]
theorem Td {ts : List Cb} {o : Option V} (h : cdP (ts.length + 1) true ts = o.map fun v => (v, [])) : Hg ts = o := by
  unfold Hg
  rw [h]
  cases o <;> rfl
theorem Od.paren {n : Nat} {E : List Cb} {f : Bool → Option V} (h : ∀ d r, evP (cdP n) (2 * (E ++ Go.Pre.P [41] :: r).length + 1) 1 d (E ++ Go.Pre.P [41] :: r) = (f d).map fun v => (v, Go.Pre.P [41] :: r)) : Od (cdP (n + 1)) (Go.Pre.P [40] :: (E ++ [Go.Pre.P [41]])) f := fun d r => by
  have e1 : Go.Pre.P [40] :: (E ++ [Go.Pre.P [41]]) ++ r = Go.Pre.P [40] :: (E ++ Go.Pre.P [41] :: r) := by simp
  rw [e1, show unP (cdP (n + 1)) d (Go.Pre.P [40] :: (E ++ Go.Pre.P [41] :: r)) = Go.Pre.Aix (cdP (n + 1) d (E ++ Go.Pre.P [41] :: r)) from Aoy]
  rw [Zq (h d r) (fun t r' e => by cases e; decide)]
  cases f d with
  | none => rfl
  | some v => rw [Option.map_some, Go.Pre.Yi]; exact Go.Pre.Vd rfl
section
variable {C : CT'} {A : List Cb} {f : Bool → Option V} (h : Od C A f)
include h
theorem Od.neg : Od C (Go.Pre.P [45] :: A) (fun d => (f d).map Kg) := fun d r => by
  rw [List.cons_append, show unP C d (Go.Pre.P [45] :: (A ++ r)) = (unP C d (A ++ r)).map (fun p => (Kg p.1, p.2)) from Ao0, h d r]
  show _ = Option.map (fun v => (v, r)) ((f d).map Kg)
  cases f d <;> rfl
theorem Od.inv : Od C (Go.Pre.P [126] :: A) (fun d => (f d).map Jo) := fun d r => by
  rw [List.cons_append, show unP C d (Go.Pre.P [126] :: (A ++ r)) = (unP C d (A ++ r)).map (fun p => (Jo p.1, p.2)) from Ao1, h d r]
  show _ = Option.map (fun v => (v, r)) ((f d).map Jo)
  cases f d <;> rfl
theorem Od.not : Od C (Go.Pre.P [33] :: A) (fun d => (f d).map Jm) := fun d r => by
  rw [List.cons_append, show unP C d (Go.Pre.P [33] :: (A ++ r)) = (unP C d (A ++ r)).map (fun p => (Jm p.1, p.2)) from Aoz, h d r]
  show _ = Option.map (fun v => (v, r)) ((f d).map Jm)
  cases f d <;> rfl
end
theorem Od.num {C : CT'} {X : List UInt8} {v : V} (h : Kb (2, X) = some v) : Od C [(2, X)] (fun _ => some v) := fun d r => by
  have hne : ∀ s, ((2, X) : Cb) ≠ Go.Pre.P s := fun s e => by have : (2 : Nat) = 5 := congrArg Prod.fst e; omega
  rw [List.singleton_append, show unP C d ((2, X) :: r) = (Kb (2, X)).map (fun v => (v, r)) from Akg (hne _) (hne _) (hne _) (hne _) (hne _), h]; try rfl
def nT (n : Int) (un : Bool) : List UInt8 := wrT (bvB n un).toNat ++ if un then [117] else []
def nK (n : Int) (un : Bool) : List Cb := (if ngB n un then [Go.Pre.P [126]] else []) ++ [(2, nT n un)]
def nV (n : Int) (un : Bool) : V := (BitVec.ofInt 64 n, un)
theorem Avs (n : Int) (un : Bool) : Kb (2, nT n un) = some (bvB n un, un || decide (9223372036854775807 < (bvB n un).toNat)) := by
  unfold Kb
  rw [if_pos rfl]
  show (Pe (nT n un)).map _ = _
  unfold nT
  rw [Aus]
  simp
theorem Ath {n : Int} (h1 : -9223372036854775808 ≤ n) (h2 : n ≤ 9223372036854775807) : ¬ 9223372036854775807 < (bvB n false).toNat := by
  have e : (BitVec.ofInt 64 n).toNat = (n % ((2 ^ 64 : Nat) : Int)).toNat := BitVec.toNat_ofInt ..
  rw [show ((2 ^ 64 : Nat) : Int) = 18446744073709551616 by decide] at e
  unfold bvB ngB
  by_cases h : n < 0
  · rw [decide_eq_true h, if_pos (by rfl), BitVec.toNat_not]
    omega
  · rw [decide_eq_false h, if_neg (by simp)]
    omega
theorem Od.nK {C : CT'} {n : Int} {un : Bool} (h1 : -9223372036854775808 ≤ n) (h2 : n ≤ 9223372036854775807) : Od C (nK n un) (fun _ => some (nV n un)) := by
  have hp : ∀ u : Bool, (u || decide (9223372036854775807 < (bvB n u).toNat)) = u := fun u => by
    cases u with
    | true => rfl
    | false => rw [decide_eq_false (Ath h1 h2)]; rfl
  have p := Avs n un
  rw [hp] at p
  unfold Go.Den.nK nV
  unfold bvB at p
  by_cases hg : ngB n un = true
  · rw [if_pos hg]
    rw [if_pos hg] at p
    have hun : un = false := by
      cases un with
      | false => rfl
      | true => simp [ngB] at hg
    have := (Od.num (C := C) p).inv
    simp only [Option.map_some, Jo, BitVec.not_not] at this
    exact this
  · rw [if_neg hg]
    rw [if_neg hg] at p
    exact Od.num p
theorem Lxs.nK {n : Int} {un : Bool} {r : List UInt8} {ts : List Cb} (h : Lxs r ts) (hr : Ash r) : Lxs (wrN n un ++ r) (nK n un ++ ts) := by
  have w := Aov (bvB n un).isLt
  obtain ⟨x, X, hX⟩ : ∃ x X, wrT (bvB n un).toNat = x :: X := by
    cases e : wrT (bvB n un).toNat with
    | nil => exact absurd e w.ne
    | cons x X => exact ⟨x, X, rfl⟩
  have hd : ∀ y ∈ x :: X, y ∈ Lb := by rw [← hX]; exact w.dec
  have hn : Lxs (nT n un ++ r) ((2, nT n un) :: ts) := by
    unfold nT
    rw [hX]
    have := Lxs.num (X := X ++ if un then [117] else []) h (hd x (by simp)) (fun y hy => ?_) hr
    · exact this
    · rcases List.mem_append.1 hy with hy | hy
      · exact (Amo (hd y (by simp [hy]))).2.1
      · cases un with
        | true => simp only [if_pos, List.mem_singleton] at hy; subst hy; decide
        | false => simp at hy
  unfold wrN Go.Den.nK
  by_cases hg : ngB n un = true
  · rw [if_pos hg, if_pos hg]
    exact hn.op1 (.inr (.inr (.inl rfl)))
  · rw [if_neg hg, if_neg hg]
    exact hn
theorem Ud (r : List UInt8) : Ash (32 :: r) := by show Go.Lx.Rl 32 = true; decide
theorem Amm (r : List UInt8) : Ash (41 :: r) := by show Go.Lx.Rl 41 = true; decide
theorem Lxs.Ann {n : Int} {un : Bool} {r : List UInt8} {ts : List Cb} (h : Lxs (32 :: r) ts) : Lxs (wrN n un ++ 32 :: r) (Go.Den.nK n un ++ ts) := h.nK (Ud _)
theorem Lxs.d1 {x : UInt8} {r : List UInt8} {ts : List Cb} (h : Lxs (32 :: r) ts) (hx : x ∈ Lb) : Lxs (x :: 32 :: r) ((2, [x]) :: ts) := Lxs.num (X := []) h hx (fun y hy => absurd hy (by simp)) (Ud _)
theorem Aow (n : Int) (un : Bool) : ∃ c r, wrN n un = c :: r ∧ c ∈ Art := by
  have w := Aov (bvB n un).isLt
  unfold wrN
  by_cases hg : ngB n un = true
  · rw [if_pos hg]; exact ⟨126, _, rfl, by decide⟩
  · rw [if_neg hg]
    cases e : wrT (bvB n un).toNat with
    | nil => exact absurd e w.ne
    | cons x X =>
      have := w.dec x (by rw [e]; simp)
      have h2 : ∀ y ∈ Lb, y ∈ Art := by decide
      exact ⟨x, _, rfl, h2 x this⟩
theorem Lq (n : Int) (un : Bool) : (∀ x ∈ wrN n un, x ≠ 10 ∧ x ≠ 63) ∧ (wrN n un).length ≤ 72 := by
  have w := Aov (bvB n un).isLt
  have h2 : ∀ y ∈ Lb, y ≠ 10 ∧ y ≠ 63 := by decide
  unfold wrN
  refine ⟨fun x hx => ?_, ?_⟩
  · rcases List.mem_append.1 hx with hx | hx
    · split at hx
      · simp only [List.mem_singleton] at hx; subst hx; decide
      · simp at hx
    · rcases List.mem_append.1 hx with hx | hx
      · exact h2 x (w.dec x hx)
      · split at hx
        · simp only [List.mem_singleton] at hx; subst hx; decide
        · simp at hx
  · have := w.len
    simp only [List.length_append]
    split <;> split <;> simp <;> omega
theorem Nf (n : Int) (un : Bool) : ∀ t ∈ nK n un, okT t := fun t ht => by
  have w := (Aov (bvB n un).isLt).len
  unfold nK at ht
  rcases List.mem_append.1 ht with ht | ht
  · split at ht
    · simp only [List.mem_singleton] at ht; subst ht; decide
    · simp at ht
  · simp only [List.mem_singleton] at ht
    subst ht
    refine ⟨?_, by show (2 : Nat) ≠ 3; decide⟩
    show (nT n un).length ≤ 1000
    unfold nT
    rw [List.length_append]
    split <;> simp <;> omega
end Go.Den
namespace Go.Den
open Go.RowKit
open Go.Pre (V Ir vz Ew Kg Jo Jm Hx)
set_option maxRecDepth 100000
def Odn (m : Nat) (A : List Cb) (f : Bool → Option V) : Prop := ∀ n, m ≤ n → Od (cdP n) A f
theorem Odn.nK {n : Int} {un : Bool} (h1 : -9223372036854775808 ≤ n) (h2 : n ≤ 9223372036854775807) : Odn 0 (nK n un) (fun _ => some (nV n un)) := fun _ _ => .nK h1 h2
theorem Odn.lit {x : UInt8} {X : List UInt8} {v : V} (h : Kb (2, x :: X) = some v) : Odn 0 [(2, x :: X)] (fun _ => some v) := fun _ _ => .num h
theorem Odn.mono {m m' : Nat} {A : List Cb} {f : Bool → Option V} (h : Odn m A f) (hm : m ≤ m') : Odn m' A f := fun n hn => h n (by omega)
theorem Odn.neg {m : Nat} {A : List Cb} {f : Bool → Option V} (h : Odn m A f) : Odn m (Go.Pre.P [45] :: A) (fun d => (f d).map Kg) := fun n hn => (h n hn).neg
theorem Odn.inv {m : Nat} {A : List Cb} {f : Bool → Option V} (h : Odn m A f) : Odn m (Go.Pre.P [126] :: A) (fun d => (f d).map Jo) := fun n hn => (h n hn).inv
theorem Odn.not {m : Nat} {A : List Cb} {f : Bool → Option V} (h : Odn m A f) : Odn m (Go.Pre.P [33] :: A) (fun d => (f d).map Jm) := fun n hn => (h n hn).not
theorem Ao4 (r : List Cb) (l : Nat) : Go.Pre.stops Go.Pre.lvl l (Go.Pre.P [41] :: r) = true := Ao5 (r := Go.Pre.P [41] :: r) (by show lvT (Go.Pre.P [41]) = 0; decide) l
section
variable {m : Nat} {A B D : List Cb} {f g e : Bool → Option V} {t t1 t2 : Cb} (hA : Odn m A f) (hB : Odn m B g) (hD : Odn m D e)
include hA
theorem Odn.p1 : Odn (m + 1) (Go.Pre.P [40] :: (A ++ [Go.Pre.P [41]])) f := fun n hn => by
  obtain ⟨n, rfl⟩ : ∃ n', n = n' + 1 := ⟨n - 1, by omega⟩
  exact Od.paren fun d r => bd1 (hA n (by omega)) (by omega) (Ao4 _ _)
theorem ev1 (hm : m ≤ A.length) : Hg A = f true := by
  refine Td (Zq (r := []) ?_ (fun t r' e => by cases e))
  have := bd1 (hA A.length hm) (N := 2 * A.length + 1) (least := 1) (d := true) (r := []) (by omega) rfl
  rw [List.append_nil] at this
  exact this
include hB
theorem Odn.p2 (ht : lvT t ≠ 0) (hl : 1 ≤ A.length) : Odn (m + 1) (Go.Pre.P [40] :: (A ++ t :: (B ++ [Go.Pre.P [41]]))) (f2 t f g) := fun n hn => by
  obtain ⟨n, rfl⟩ : ∃ n', n = n' + 1 := ⟨n - 1, by omega⟩
  have := Od.paren (n := n) (E := A ++ t :: B) (f := f2 t f g) fun d r => by
    rw [List.append_assoc, List.cons_append]
    exact bd2 (hA n (by omega)) (hB n (by omega)) ht (by simp only [List.length_append, List.length_cons]; omega) (by omega) fun m _ => Ao4 _ _
  rw [List.append_assoc, List.cons_append] at this
  exact this
theorem ev2 (ht : lvT t ≠ 0) (hl : 1 ≤ A.length) (hm : m ≤ (A ++ t :: B).length) : Hg (A ++ t :: B) = f2 t f g true := by
  refine Td (Zq (r := []) ?_ (fun t r' e => by cases e))
  have := bd2 (hA _ hm) (hB _ hm) ht (N := 2 * (A ++ t :: B).length + 1) (least := 1) (d := true) (r := []) (by simp only [List.length_append, List.length_cons]; omega) (by omega) (fun m _ => rfl)
  rw [List.append_nil] at this
  exact this
include hD
theorem A38 (h1 : lvT t1 ≠ 0) (h12 : lvT t1 < lvT t2) (hl : 1 ≤ A.length) (hm : m ≤ (A ++ t1 :: (B ++ t2 :: D)).length) : Hg (A ++ t1 :: (B ++ t2 :: D)) = f2 t1 f (f2 t2 g e) true := by
  refine Td (Zq (r := []) ?_ (fun t r' e => by cases e))
  have := Bje (hA _ hm) (hB _ hm) (hD _ hm) h1 h12 (N := 2 * (A ++ t1 :: (B ++ t2 :: D)).length + 1) (least := 1) (d := true) (r := []) (by simp only [List.length_append, List.length_cons]; omega) (by omega) (fun m _ => rfl)
  rw [List.append_nil] at this
  exact this
theorem Bh1 (h1 : lvT t1 ≠ 0) (h2 : lvT t2 ≠ 0) (h21 : lvT t2 ≤ lvT t1) (hl : 1 ≤ A.length) (hm : m ≤ (A ++ t1 :: (B ++ t2 :: D)).length) : Hg (A ++ t1 :: (B ++ t2 :: D)) = f2 t2 (f2 t1 f g) e true := by
  refine Td (Zq (r := []) ?_ (fun t r' e => by cases e))
  have := Bjf (hA _ hm) (hB _ hm) (hD _ hm) h1 h2 h21 (N := 2 * (A ++ t1 :: (B ++ t2 :: D)).length + 1) (least := 1) (d := true) (r := []) (by simp only [List.length_append, List.length_cons]; omega) (by omega) (fun m _ => rfl)
  rw [List.append_nil] at this
  exact this
end
theorem Ba3 {A E1 E2 : List Cb} {f g e : Bool → Option V} (hA : Odn 0 A f) (_hl : 1 ≤ A.length) (h1 : ∀ n d N r, 7 ≤ N → (∀ l, Go.Pre.stops Go.Pre.lvl l r = true) → evP (cdP n) N 1 d (E1 ++ r) = (g d).map fun v => (v, r)) (h2 : ∀ n d N r, 3 ≤ N → (∀ l, Go.Pre.stops Go.Pre.lvl l r = true) → evP (cdP n) N 1 d (E2 ++ r) = (e d).map fun v => (v, r)) (hl1 : 1 ≤ E1.length) (hl2 : 1 ≤ E2.length) :
    Hg (A ++ Go.Pre.P [63] :: (E1 ++ Go.Pre.P [58] :: E2)) = (f true).bind fun c => (g (true && !vz c)).bind fun a => (e (true && vz c)).map fun b => Ew c a b := by
  have s63 : ∀ (r : List Cb) (l : Nat), Go.Pre.stops Go.Pre.lvl l (Go.Pre.P [63] :: r) = true := fun r l => Ao5 (r := Go.Pre.P [63] :: r) (by show lvT (Go.Pre.P [63]) = 0; decide) l
  have s58 : ∀ (r : List Cb) (l : Nat), Go.Pre.stops Go.Pre.lvl l (Go.Pre.P [58] :: r) = true := fun r l => Ao5 (r := Go.Pre.P [58] :: r) (by show lvT (Go.Pre.P [58]) = 0; decide) l
  refine Td ?_
  obtain ⟨n, hn⟩ : ∃ n, (A ++ Go.Pre.P [63] :: (E1 ++ Go.Pre.P [58] :: E2)).length = n + 1 := ⟨A.length + E1.length + E2.length + 1, by simp only [List.length_append, List.length_cons]; omega⟩
  have c1 : ∀ d, cdP (n + 1) d (E1 ++ Go.Pre.P [58] :: E2) = (g d).map fun v => (v, Go.Pre.P [58] :: E2) := fun d =>
    Zq (h1 n d _ _ (by simp only [List.length_append, List.length_cons]; omega) (s58 _)) (fun t r' e => by cases e; decide)
  have c2 : ∀ d, cdP (n + 1) d E2 = (e d).map fun v => (v, []) := fun d => by
    refine Zq (r := []) ?_ (fun t r' e => by cases e)
    have := h2 n d (2 * E2.length + 1) [] (by omega) (fun l => rfl)
    rw [List.append_nil] at this
    exact this
  rw [As4, hn, bd1 (hA (n + 1) (Nat.zero_le _)) (by omega) (s63 _ _)]
  cases f true with
  | none => rfl
  | some c =>
    show (Go.Pre.Lv (Go.Pre.P [63] :: (E1 ++ Go.Pre.P [58] :: E2)) [63] (fun r => (cdP (n + 1) (true && !vz c) r).bind fun q => Go.Pre.Lv q.2 [58] (fun r2 => (cdP (n + 1) (true && vz c) r2).map fun s => (Ew c q.1 s.1, s.2)) none) (some (c, Go.Pre.P [63] :: (E1 ++ Go.Pre.P [58] :: E2)))) = Option.map (fun v => (v, [])) ((g (true && !vz c)).bind fun a => (e (true && vz c)).map fun b => Ew c a b)
    rw [Go.Pre.Vd rfl, c1]
    cases g (true && !vz c) with
    | none => rfl
    | some a =>
      show Go.Pre.Lv (Go.Pre.P [58] :: E2) [58] (fun r2 => (cdP (n + 1) (true && vz c) r2).map fun s => (Ew c a s.1, s.2)) none = Option.map (fun v => (v, [])) ((e (true && vz c)).map fun b => Ew c a b)
      rw [Go.Pre.Vd rfl, c2]
      cases e (true && vz c) <;> rfl
end Go.Den
