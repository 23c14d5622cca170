/-
  A part of the proof.
-/
import Derived.KernelRfl
import Derived.Test.YtcnmehbkpaoolaaGreatDoorToks
namespace Go.Pre
abbrev R (V T : Type) := Option (V × List T)
section
variable {V T : Type} (lvl : T → Nat) (need : T → V → Bool) (two : T → V → V → Bool → Option V) (U : Bool → List T → R V T)
def stops (least : Nat) : List T → Bool
  | [] => true
  | t :: _ => decide (lvl t = 0) || decide (lvl t < least)
mutual
def evB : Nat → Nat → Bool → List T → R V T
  | 0, _, _, _ => none
  | n + 1, least, d, ts => (U d ts).bind fun p => Kc n least d p.1 p.2
def Kc : Nat → Nat → Bool → V → List T → R V T
  | 0, _, _, a, ts => some (a, ts)
  | _ + 1, _, _, a, [] => some (a, [])
  | n + 1, least, d, a, t :: r => if stops lvl least (t :: r) then some (a, t :: r) else (evB n (lvl t + 1) (d && need t a) r).bind fun p => (two t a p.1 d).bind fun a' => Kc n least d a' p.2
end
section
variable {lvl : T → Nat} {need : T → V → Bool} {two : T → V → V → Bool → Option V} {U : Bool → List T → R V T} {n least : Nat} {d : Bool} {a : V}
theorem Sa {l : Nat} {t : T} {r : List T} : stops lvl l (t :: r) = (decide (lvl t = 0) || decide (lvl t < l)) := rfl
theorem Kt {ts : List T} (h : stops lvl least ts = true) : Kc lvl need two U n least d a ts = some (a, ts) := by
  cases n with
  | zero => rw [Kc]
  | succ n =>
    cases ts with
    | nil => rw [Kc]
    | cons t r => rw [Kc, if_pos h]
theorem Agw {t : T} {r : List T} (h : ¬ stops lvl least (t :: r) = true) : Kc lvl need two U (n + 1) least d a (t :: r) = (evB lvl need two U n (lvl t + 1) (d && need t a) r).bind fun p => (two t a p.1 d).bind fun a' => Kc lvl need two U n least d a' p.2 := by
  rw [Kc, if_neg h]
theorem Ar8 {ts : List T} : evB lvl need two U (n + 1) least d ts = (U d ts).bind fun p => Kc lvl need two U n least d p.1 p.2 := by
  rw [evB]
end
end
abbrev Tok := Nat × List UInt8
section
variable {V : Type} (prim : Tok → Option V) (neg inv isz : V → V) (zero : V → Bool) (pick : V → V → V → V)
variable (lvl : Tok → Nat) (need : Tok → V → Bool) (two : Tok → V → V → Bool → Option V)
def P (s : List UInt8) : Tok := (5, s)
def Lv {V : Type} (l : List Tok) (s : List UInt8) (k : List Tok → R V Tok) (e : R V Tok) : R V Tok := match l with
  | [] => e
  | t :: r => if t = P s then k r else e
def Aix {V : Type} (o : R V Tok) : R V Tok := o.bind fun p => Lv p.2 [41] (fun r => some (p.1, r)) none
def unary (C : Bool → List Tok → R V Tok) : Bool → List Tok → R V Tok
  | _, [] => none
  | d, t :: r => if t = P [43] then unary C d r
    else if t = P [45] then (unary C d r).map fun p => (neg p.1, p.2)
    else if t = P [126] then (unary C d r).map fun p => (inv p.1, p.2)
    else if t = P [33] then (unary C d r).map fun p => (isz p.1, p.2)
    else if t = P [40] then Aix (C d r)
    else (prim t).map fun v => (v, r)
def Abm (B C : Bool → List Tok → R V Tok) (d : Bool) (ts : List Tok) : R V Tok := (B d ts).bind fun p => Lv p.2 [63] (fun r => (C (d && !zero p.1) r).bind fun q => Lv q.2 [58] (fun r2 => (C (d && zero p.1) r2).map fun s => (pick p.1 q.1 s.1, s.2)) none) (some p)
def Vu : Nat → Bool → List Tok → R V Tok
  | 0 => fun _ _ => none
  | n + 1 => Abm zero pick (fun d ts => evB lvl need two (unary prim neg inv isz (Vu n)) (2 * ts.length + 1) 1 d ts) (Vu n)
end
section
variable {V : Type} {prim : Tok → Option V} {neg inv isz : V → V} {C : Bool → List Tok → R V Tok} {d : Bool} {t : Tok} {r : List Tok}
theorem Auu : unary prim neg inv isz C d (P [43] :: r) = unary prim neg inv isz C d r := by rw [unary, if_pos rfl]
theorem Ay5 : unary prim neg inv isz C d (P [45] :: r) = (unary prim neg inv isz C d r).map fun p => (neg p.1, p.2) := by rw [unary, if_neg (by decide), if_pos rfl]
theorem Ay6 : unary prim neg inv isz C d (P [126] :: r) = (unary prim neg inv isz C d r).map fun p => (inv p.1, p.2) := by rw [unary, if_neg (by decide), if_neg (by decide), if_pos rfl]
theorem Ay4 : unary prim neg inv isz C d (P [33] :: r) = (unary prim neg inv isz C d r).map fun p => (isz p.1, p.2) := by rw [unary, if_neg (by decide), if_neg (by decide), if_neg (by decide), if_pos rfl]
theorem Ay3 : unary prim neg inv isz C d (P [40] :: r) = Aix (C d r) := by rw [unary, if_neg (by decide), if_neg (by decide), if_neg (by decide), if_neg (by decide), if_pos rfl]
theorem Aut (h1 : t ≠ P [43]) (h2 : t ≠ P [45]) (h3 : t ≠ P [126]) (h4 : t ≠ P [33]) (h5 : t ≠ P [40]) : unary prim neg inv isz C d (t :: r) = (prim t).map fun v => (v, r) := by rw [unary, if_neg h1, if_neg h2, if_neg h3, if_neg h4, if_neg h5]
theorem Yi {v : V} {l : List Tok} : Aix (some (v, l)) = Lv l [41] (fun r => some (v, r)) none := rfl
theorem Vd {s : List UInt8} {k : List Tok → R V Tok} {e : R V Tok} (h : t = P s) : Lv (t :: r) s k e = k r := if_pos h
theorem Wp {s : List UInt8} {k : List Tok → R V Tok} {e : R V Tok} (h : t ≠ P s) : Lv (t :: r) s k e = e := if_neg h
end
abbrev V := BitVec 64 × Bool
def Ir (b : Bool) : V := (if b then 1#64 else 0#64, false)
def vz (v : V) : Bool := decide (v.1 = 0#64)
def Ew (c a b : V) : V := (if vz c then b.1 else a.1, a.2 || b.2)
def Kg (v : V) : V := (-v.1, v.2)
def Jo (v : V) : V := (~~~v.1, v.2)
def Jm (v : V) : V := Ir (vz v)
def Ld : List (List (List UInt8)) := [[[124, 124]], [[38, 38]], [[124]], [[94]], [[38]], [[61, 61], [33, 61]], [[60], [62], [60, 61], [62, 61]], [[60, 60], [62, 62]], [[43], [45]], [[42], [47], [37]]]
def Wc : List (List (List UInt8)) → Nat → List UInt8 → Nat
  | [], _, _ => 0
  | r :: rs, i, s => if s ∈ r then i + 1 else Wc rs (i + 1) s
def Ad7 (s : List UInt8) : Nat := Wc Ld 0 s
def lvl (t : Tok) : Nat := if t.1 = 5 then Ad7 t.2 else 0
def need (t : Tok) (a : V) : Bool := if t.2 = [124, 124] then vz a else if t.2 = [38, 38] then !vz a else true
def Ahq (s : List UInt8) (a b : BitVec 64) (un : Bool) : BitVec 64 := if un then (if s = [47] then a / b else a % b) else (if s = [47] then a.sdiv b else a.srem b)
def shB (s : List UInt8) (a : V) (n : Nat) : V := (if s = [60, 60] then a.1 <<< n else if a.2 then a.1 >>> n else a.1.sshiftRight n, a.2)
def Oi (a b : BitVec 64) (un : Bool) : Bool := if un then decide (a.toNat < b.toNat) else decide (a.toInt < b.toInt)
def Ae0 (s : List UInt8) (a b : BitVec 64) (un : Bool) : Bool :=
  if s = [61, 61] then decide (a = b) else if s = [33, 61] then !decide (a = b) else if s = [60] then Oi a b un else if s = [62, 61] then !Oi a b un else if s = [62] then !Oi a b un && !decide (a = b) else Oi a b un || decide (a = b)
def Hx (s : List UInt8) (a b : V) (d : Bool) : Option V :=
  if s = [124] then some (a.1 ||| b.1, a.2 || b.2)
  else if s = [94] then some (a.1 ^^^ b.1, a.2 || b.2)
  else if s = [38] then some (a.1 &&& b.1, a.2 || b.2)
  else if s = [43] then some (a.1 + b.1, a.2 || b.2)
  else if s = [45] then some (a.1 - b.1, a.2 || b.2)
  else if s = [42] then some (a.1 * b.1, a.2 || b.2)
  else if s = [47] ∨ s = [37] then (if b.1 = 0#64 then (if d then none else some (0#64, a.2 || b.2)) else some (Ahq s a.1 b.1 (a.2 || b.2), a.2 || b.2))
  else if s = [60, 60] ∨ s = [62, 62] then some (shB s a (b.1 &&& 63#64).toNat)
  else some (Ir (Ae0 s a.1 b.1 (a.2 || b.2)))
def two (t : Tok) (a b : V) (d : Bool) : Option V := if t.2 = [124, 124] then some (Ir (!vz a || !vz b)) else if t.2 = [38, 38] then some (Ir (!vz a && !vz b)) else Hx t.2 a b d
end Go.Pre
namespace Go.Den
open Go.RowKit
open Go.Pre (V Ir vz Ew Kg Jo Jm Ahq shB Oi Ae0 Hx)
set_option maxRecDepth 100000
def Cel (h : H) (q : P) (e : TypeId) (cs : List AV) : Prop := ∃ t, h.at q = .row t cs.length 0 e true ∧ ∀ j (hj : j < cs.length), Cg t j = cs[j]
section
variable {h h' : H} {q B : P} {e : TypeId} {cs : List AV}
theorem Cel.atp (c : Cel h q e cs) : AtP h q 0 cs := by
  obtain ⟨t, h1, h2⟩ := c
  exact ⟨t, _, 0, e, true, h1, by omega, fun j hj => by rw [Nat.zero_add]; exact h2 j hj⟩
theorem Cel.new : Cel (h.new (rowOf e cs)) h.next e cs := by
  refine ⟨Aq cs 0 .e, ?_, fun j hj => ?_⟩
  · rw [Cm]; unfold rowOf; rw [Df]
  · rw [Bl, if_pos (by omega), List.getD_eq_getElem?_getD, List.getElem?_eq_getElem (by omega)]; simp
theorem Cel.frame (c : Cel h q e cs) (hf : h'.at q = h.at q) : Cel h' q e cs := by
  obtain ⟨t, h1, h2⟩ := c
  exact ⟨t, by rw [hf]; exact h1, h2⟩
theorem Cel.fr (c : Cel h q e cs) (f : FrO B h h') (hq : q.nat < h.next.nat) (hn : q ≠ B) : Cel h' q e cs := c.frame (f.2 q hq hn)
theorem Cel.ext (c : Cel h q e cs) (f : Exh h h') (hq : q.nat < h.next.nat) : Cel h' q e cs := c.frame (f.2 q hq)
theorem Cel.st1 {j : Nat} {v : AV} {K : H → Prop} (c : Cel h q e cs) (hj : j < cs.length) (hv : v.one = true) (hk : ∀ h', FrO q h h' → Cel h' q e (cs.set j v) → K h') : Go.Den.st1 (.ptr q (0 + j)) v h K := by
  obtain ⟨t, h1, h2⟩ := c
  refine Akj h1 (Nat.zero_le _) (by omega) hv (hk _ ⟨by rw [Je]; exact Nat.le_refl _, fun c _ hn => Fg hn⟩ ⟨_, by rw [Du, List.length_set], fun i hi => ?_⟩)
  rw [List.length_set] at hi
  rw [Bl, List.getElem_set]
  by_cases e : j = i
  · subst e
    rw [if_pos ⟨by omega, by simp⟩, if_pos rfl]; simp
  · rw [if_neg (by simp only [List.length_singleton]; omega), if_neg e]; exact h2 i hi
theorem Cel.stn {cs' : List AV} {n : Nat} {K : H → Prop} (c : Cel h q e cs) (hl : cs'.length = cs.length) (hn : cs'.length = n) (h1 : 1 ≤ n) (hk : ∀ h', FrO q h h' → Cel h' q e cs' → K h') : Go.Den.stn n (.ptr q 0) (.agg cs') h K := by
  obtain ⟨t, a1, a2⟩ := c
  refine Xr a1 (Nat.zero_le _) hn h1 (by omega) (hk _ ⟨by rw [Je]; exact Nat.le_refl _, fun c _ hn => Fg hn⟩ ⟨_, by rw [Du, hl], fun i hi => ?_⟩)
  rw [Bl, if_pos (by omega), List.getD_eq_getElem?_getD, List.getElem?_eq_getElem (by omega)]; simp
theorem FrO.trans {h0 h1 h2 : H} (a : FrO B h0 h1) (b : FrO B h1 h2) : FrO B h0 h2 := ⟨Nat.le_trans a.1 b.1, fun c hc hn => by rw [b.2 c (Nat.lt_of_lt_of_le hc a.1) hn, a.2 c hc hn]⟩
theorem FrO.loc {h0 h1 h2 : H} {p : P} (a : FrO B h0 h1) (b : FrO p h1 h2) (hp : h0.next.nat ≤ p.nat) : FrO B h0 h2 := ⟨Nat.le_trans a.1 b.1, fun c hc hn => by rw [b.2 c (Nat.lt_of_lt_of_le hc a.1) (fun e => by subst e; omega), a.2 c hc hn]⟩
theorem FrO.refl : FrO B h h := ⟨Nat.le_refl _, fun _ _ _ => rfl⟩
theorem Exh.loc {h0 h1 h2 : H} {p : P} (a : Exh h0 h1) (b : FrO p h1 h2) (hp : h0.next.nat ≤ p.nat) : Exh h0 h2 := ⟨Nat.le_trans a.1 b.1, fun c hc => by rw [b.2 c (Nat.lt_of_lt_of_le hc a.1) (fun e => by subst e; omega), a.2 c hc]⟩
end
abbrev uI (a : BitVec 64) : AV := .int .u64 (Int.ofNat a.toNat)
abbrev vC (v : V) : List AV := [uI v.1, .bool v.2]
abbrev vI (v : V) : AV := .agg (vC v)
theorem Alr : Dd = rowOf 55 (vC (0#64, false)) := rfl
theorem wU (x : BitVec 64) : wrap .u64 x.toInt = Int.ofNat x.toNat := by
  rw [Ey, IntKind.wrap_u64, BitVec.toInt_eq_toNat_cond]
  have := x.isLt
  split <;> (show _ = ((x.toNat : Nat) : Int); omega)
theorem wI (x : BitVec 64) : wrap .i64 (Int.ofNat x.toNat) = x.toInt := by
  rw [Ey, IntKind.wrap_i64, BitVec.toInt_eq_toNat_cond]
  have := x.isLt
  show (((x.toNat : Nat) : Int) + 9223372036854775808) % 18446744073709551616 - 9223372036854775808 = _
  split <;> omega
theorem wOf (n : Int) : wrap .u64 n = Int.ofNat (BitVec.ofInt 64 n).toNat := by
  rw [Ey, IntKind.wrap_u64, BitVec.toNat_ofInt]
  show _ = (((n % ((2 ^ 64 : Nat) : Int)).toNat : Nat) : Int)
  rw [show ((2 ^ 64 : Nat) : Int) = 18446744073709551616 by decide]; omega
theorem Bej (n : Int) : wrap .i64 n = (BitVec.ofInt 64 n).toInt := by
  rw [Ey, IntKind.wrap_i64, BitVec.toInt_ofInt]
  rw [Int.bmod_def, show ((2 ^ 64 : Nat) : Int) = 18446744073709551616 by decide]
  split <;> omega
theorem bv0 (x : BitVec 64) : Av (Int.ofNat x.toNat) (Int.ofNat 0) = decide (x = 0#64) := by
  rw [Nl]
  exact decide_eq_decide.2 ⟨fun e => BitVec.eq_of_toNat_eq (by simpa using e), fun e => by rw [e]; rfl⟩
theorem Axd (x y : BitVec 64) : Av (Int.ofNat x.toNat) (Int.ofNat y.toNat) = decide (x = y) := by
  rw [Nl]
  exact decide_eq_decide.2 ⟨fun e => BitVec.eq_of_toNat_eq e, fun e => by rw [e]⟩
theorem A66 (a b : BitVec 64) : wrap .u64 (Cf (Int.ofNat a.toNat) (Int.ofNat b.toNat)) = Int.ofNat (a + b).toNat := by
  rw [Dx, Qf, BitVec.toNat_add]
theorem Ay1 (a b : BitVec 64) : wrap .u64 (Kv (Int.ofNat a.toNat) (Int.ofNat b.toNat)) = Int.ofNat (a - b).toNat := by
  rw [Qp, Ey, IntKind.wrap_u64, BitVec.toNat_sub]
  have := a.isLt
  have := b.isLt
  show (((a.toNat : Nat) : Int) - ((b.toNat : Nat) : Int)) % _ = (((2 ^ 64 - b.toNat + a.toNat) % 2 ^ 64 : Nat) : Int)
  omega
theorem A64 (a b : BitVec 64) : wrap .u64 (Int.ofNat a.toNat * Int.ofNat b.toNat) = Int.ofNat (a * b).toNat := by
  show wrap .u64 (Int.ofNat (a.toNat * b.toNat)) = _
  rw [Qf, BitVec.toNat_mul]
theorem Ay2 (a : BitVec 64) : unA .neg (.int .u64 (Int.ofNat a.toNat)) = some (uI (-a)) := by
  show some (AV.int .u64 (IntKind.u64.wrap (0 - Int.ofNat a.toNat))) = some (AV.int .u64 (Int.ofNat (-a).toNat))
  rw [IntKind.wrap_u64, BitVec.toNat_neg]
  have := a.isLt
  show some (AV.int .u64 ((0 - ((a.toNat : Nat) : Int)) % _)) = some (AV.int .u64 (((2 ^ 64 - a.toNat) % 2 ^ 64 : Nat) : Int))
  congr 2; omega
theorem A77 (a : BitVec 64) : unA .xor (.int .u64 (Int.ofNat a.toNat)) = some (uI (~~~a)) := by
  show some (AV.int .u64 (IntKind.u64.wrap (((BitVec.ofInt 64 IntKind.u64.max) ^^^ (BitVec.ofInt 64 (Int.ofNat a.toNat))).toNat : Int))) = _
  have e1 : BitVec.ofInt 64 IntKind.u64.max = BitVec.allOnes 64 := by decide
  have e2 : BitVec.ofInt 64 (Int.ofNat a.toNat) = a := by
    show BitVec.ofInt 64 ((a.toNat : Nat) : Int) = a
    rw [BitVec.ofInt_natCast]; simp
  rw [e1, e2, BitVec.allOnes_xor, IntKind.wrap_u64]
  have := (~~~a).isLt
  show some (AV.int .u64 ((((~~~a).toNat : Nat) : Int) % _)) = some (AV.int .u64 (((~~~a).toNat : Nat) : Int))
  congr 2; omega
theorem A98 {a b : BitVec 64} {K : Int → Prop} (hk : K (Int.ofNat (a ||| b).toNat)) : Ml Nat.lor .u64 (Int.ofNat a.toNat) (Int.ofNat b.toNat) K := by
  have h1 : Nat.ble a.toNat (intMax .u64) = true := Nat.ble_eq_true_of_le (by have := a.isLt; show a.toNat ≤ 18446744073709551615; omega)
  have h2 : Nat.ble b.toNat (intMax .u64) = true := Nat.ble_eq_true_of_le (by have := b.isLt; show b.toNat ≤ 18446744073709551615; omega)
  show Bool.rec False (fN (Nat.lor a.toNat b.toNat) fun n => K (.ofNat n)) (Ah (Nat.ble a.toNat (intMax .u64)) (Nat.ble b.toNat (intMax .u64)))
  rw [h1, h2]
  rw [BitVec.toNat_or] at hk; exact hk
theorem Ax4 {a b : BitVec 64} {K : Int → Prop} (hk : K (Int.ofNat (a ^^^ b).toNat)) : Ml Nat.xor .u64 (Int.ofNat a.toNat) (Int.ofNat b.toNat) K := by
  have h1 : Nat.ble a.toNat (intMax .u64) = true := Nat.ble_eq_true_of_le (by have := a.isLt; show a.toNat ≤ 18446744073709551615; omega)
  have h2 : Nat.ble b.toNat (intMax .u64) = true := Nat.ble_eq_true_of_le (by have := b.isLt; show b.toNat ≤ 18446744073709551615; omega)
  show Bool.rec False (fN (Nat.xor a.toNat b.toNat) fun n => K (.ofNat n)) (Ah (Nat.ble a.toNat (intMax .u64)) (Nat.ble b.toNat (intMax .u64)))
  rw [h1, h2]
  rw [BitVec.toNat_xor] at hk; exact hk
theorem Aq7 {a b : BitVec 64} {K : Int → Prop} (hk : K (Int.ofNat (a &&& b).toNat)) : Ml Nat.land .u64 (Int.ofNat a.toNat) (Int.ofNat b.toNat) K := by
  have h1 : Nat.ble a.toNat (intMax .u64) = true := Nat.ble_eq_true_of_le (by have := a.isLt; show a.toNat ≤ 18446744073709551615; omega)
  have h2 : Nat.ble b.toNat (intMax .u64) = true := Nat.ble_eq_true_of_le (by have := b.isLt; show b.toNat ≤ 18446744073709551615; omega)
  show Bool.rec False (fN (Nat.land a.toNat b.toNat) fun n => K (.ofNat n)) (Ah (Nat.ble a.toNat (intMax .u64)) (Nat.ble b.toNat (intMax .u64)))
  rw [h1, h2]
  rw [BitVec.toNat_and] at hk; exact hk
section
variable {a b : BitVec 64} {K : Int → Prop}
theorem Bf0 (hb : b ≠ 0#64) (hk : K (Int.ofNat (a / b).toNat)) : Sf .u64 (Int.ofNat a.toNat) (Int.ofNat b.toNat) K := by
  unfold Sf
  rw [bv0, decide_eq_false hb]
  show fI (wrap .u64 (Int.ofNat (a.toNat / b.toNat))) K
  rw [As, Qf, Nat.mod_eq_of_lt (by have := Nat.div_le_self a.toNat b.toNat; have := a.isLt; omega), ← BitVec.toNat_udiv]; exact hk
theorem Bfx (hb : b ≠ 0#64) (hk : K (Int.ofNat (a % b).toNat)) : Vb (Int.ofNat a.toNat) (Int.ofNat b.toNat) K := by
  unfold Vb
  rw [bv0, decide_eq_false hb]
  show fI (Int.ofNat (a.toNat % b.toNat)) K
  rw [As, ← BitVec.toNat_umod]; exact hk
theorem Akh : Av b.toInt (.ofNat 0) = decide (b = 0#64) := by
  rw [Ag8]
  exact decide_eq_decide.2 ⟨fun e => BitVec.eq_of_toInt_eq (by rw [e]; rfl), fun e => by rw [e]; rfl⟩
theorem Bf1 (hb : b ≠ 0#64) (hk : K (a.sdiv b).toInt) : Sf .i64 a.toInt b.toInt K := by
  unfold Sf
  rw [Akh, decide_eq_false hb]
  show fI (wrap .i64 (a.toInt.tdiv b.toInt)) K
  rw [As, Bej, BitVec.toInt_ofInt, ← BitVec.toInt_sdiv]; exact hk
theorem Bfy (hb : b ≠ 0#64) (hk : K (a.srem b).toInt) : Vb a.toInt b.toInt K := by
  unfold Vb
  rw [Akh, decide_eq_false hb]
  show fI (a.toInt.tmod b.toInt) K
  rw [As, ← BitVec.toInt_srem]; exact hk
theorem A8y {n : Nat} (hn : n < 64) (hk : K (Int.ofNat (a <<< n).toNat)) : Ain .u64 (Int.ofNat a.toNat) (Int.ofNat n) K := by
  show fI (wrap .u64 (Int.ofNat a.toNat * 2 ^ (min n 64))) K
  rw [As, Nat.min_eq_left (by omega), show (Int.ofNat a.toNat * 2 ^ n : Int) = Int.ofNat (a.toNat * 2 ^ n) by show _ = ((a.toNat * 2 ^ n : Nat) : Int); rw [Int.natCast_mul, Int.natCast_pow]; rfl, Qf]
  rw [BitVec.toNat_shiftLeft, Nat.shiftLeft_eq] at hk; exact hk
theorem A8w {n : Nat} (hn : n < 64) (hk : K (Int.ofNat (a >>> n).toNat)) : Ab6 .u64 (Int.ofNat a.toNat) (Int.ofNat n) K := by
  show fI ((Int.ofNat a.toNat).fdiv (2 ^ (min n 64))) K
  rw [As, Nat.min_eq_left (by omega)]
  rw [BitVec.toNat_ushiftRight, Nat.shiftRight_eq_div_pow] at hk
  have : (Int.ofNat a.toNat).fdiv (2 ^ n) = Int.ofNat (a.toNat / 2 ^ n) := by
    rw [Int.fdiv_eq_ediv_of_nonneg _ (Int.le_of_lt (Int.pow_pos (by decide)))]
    show ((a.toNat : Nat) : Int) / _ = ((a.toNat / 2 ^ n : Nat) : Int)
    rw [Int.natCast_ediv, Int.natCast_pow]; rfl
  rw [this]; exact hk
theorem A8x {n : Nat} (hn : n < 64) (hk : K (a.sshiftRight n).toInt) : Ab6 .i64 a.toInt (Int.ofNat n) K := by
  show fI (a.toInt.fdiv (2 ^ (min n 64))) K
  rw [As, Nat.min_eq_left (by omega)]
  rw [BitVec.toInt_sshiftRight, Int.shiftRight_eq_div_pow] at hk
  rw [Int.fdiv_eq_ediv_of_nonneg _ (Int.le_of_lt (Int.pow_pos (by decide)))]
  rw [Int.natCast_pow] at hk
  exact hk
end
theorem Axa (b : Bool) : Pure PP G h0 141 [.bool b] (vI (Ir b)) := by
  cases b
  · exact pure_run (r := .agg [.int .u64 (.ofNat 0), .bool false]) (by kernel_rfl)
  · exact pure_run (r := .agg [.int .u64 (.ofNat 1), .bool false]) (by kernel_rfl)
theorem Bit (s : List UInt8) (a b : BitVec 64) (un : Bool) (hb : b ≠ 0#64) : Pure PP G h0 186 [S s, uI a, uI b, .bool un] (uI (Ahq s a b un)) := by
  refine A7f (n := 1) Ca (Bg7 ?_)
  unfold Acj
  rw [Ci (s := s) (t := [47]) (l := 1) (c := 47) rfl rfl]
  refine Oj ?_
  cases un with
  | true =>
    refine Bk (fun e => ?_) (fun e => ?_)
    · refine Bf0 hb ?_
      have e : s = [47] := of_decide_eq_true e
      unfold Ahq; rw [if_pos rfl, if_pos e]
    · refine Bo rfl (Bfx hb ?_)
      have e : ¬ s = [47] := of_decide_eq_false e
      unfold Ahq; rw [if_pos rfl, if_neg e]
  | false =>
    refine Am rfl (Am rfl ?_)
    refine Bk (fun e => ?_) (fun e => ?_)
    · have e : s = [47] := of_decide_eq_true e
      rw [wI, As, wI, As]
      refine Bf1 hb ?_
      rw [wU, As]
      unfold Ahq; rw [if_neg (by simp), if_pos e]
    · have e : ¬ s = [47] := of_decide_eq_false e
      rw [wI, As, wI, As]
      refine Bfy hb ?_
      rw [wU, As]
      unfold Ahq; rw [if_neg (by simp), if_neg e]
theorem Bir (s : List UInt8) (a b : BitVec 64) (un : Bool) : Pure PP G h0 188 [S s, uI a, uI b, .bool un] (.bool (Ae0 s a b un)) := by
  have fin : ∀ (h : H) (n : Nat) (k : KV), k (.bool (Ae0 s a b un)) h → (Agc W1 k (n + 1)).a1 s.length (enc s) (Int.ofNat a.toNat) (Int.ofNat b.toNat) (Oi a b un) h := fun h n k hk => by
    refine A22 ?_
    unfold Acg
    rw [Ci (s := s) (t := [61, 61]) (l := 2) (c := 15677) rfl rfl, Ci (s := s) (t := [33, 61]) (l := 2) (c := 15649) rfl rfl, Ci (s := s) (t := [60]) (l := 1) (c := 60) rfl rfl, Ci (s := s) (t := [62, 61]) (l := 2) (c := 15678) rfl rfl, Ci (s := s) (t := [62]) (l := 1) (c := 62) rfl rfl, Axd]
    unfold Ae0 at hk
    refine Bk (fun e => ?_) (fun e => ?_)
    · rw [if_pos (of_decide_eq_true e)] at hk; exact hk
    rw [if_neg (of_decide_eq_false e)] at hk
    refine Bk (fun e => ?_) (fun e => ?_)
    · rw [if_pos (of_decide_eq_true e)] at hk; rw [Bv]; exact hk
    rw [if_neg (of_decide_eq_false e)] at hk
    refine Bk (fun e => ?_) (fun e => ?_)
    · rw [if_pos (of_decide_eq_true e)] at hk; exact hk
    rw [if_neg (of_decide_eq_false e)] at hk
    refine Bk (fun e => ?_) (fun e => ?_)
    · rw [if_pos (of_decide_eq_true e)] at hk; rw [Bv]; exact hk
    rw [if_neg (of_decide_eq_false e)] at hk
    refine Bk (fun e => ?_) (fun e => ?_)
    · rw [if_pos (of_decide_eq_true e)] at hk
      refine Oj ?_
      rw [Bv, Bv]; exact hk
    rw [if_neg (of_decide_eq_false e)] at hk
    refine Fk ?_
    exact hk
  refine A7d (n := 3) Ca (Bg5 ?_)
  unfold Ach
  cases un with
  | true =>
    refine Am rfl ?_
    rw [ilt]
    exact fin _ 1 _ rfl
  | false =>
    refine Bo rfl ?_
    rw [wI, As, wI, As, Gd]
    exact fin _ 1 _ rfl
theorem Bis (s : List UInt8) (a : V) {n : Nat} (hn : n < 64) : Pure PP G h0 187 [S s, vI a, .int .u64 (Int.ofNat n)] (vI (shB s a n)) := by
  refine A7e (n := 1) Ca (Bg6 ?_)
  unfold Aci
  rw [Abr]
  refine Ahu (by simp) (Dk ?_)
  have c2 : Cel (h0.new (rowOf 55 (vC a))) h0.next 55 (vC a) := .new
  have n2 : h0.next.nat < (h0.new (rowOf 55 (vC a))).next.nat := by rw [Bq]; omega
  generalize h0.new (rowOf 55 (vC a)) = h3 at c2 n2 ⊢
  refine Dk ?_
  rw [Alr]
  have c4 : Cel (h3.new (rowOf 55 (vC (0#64, false)))) h3.next 55 (vC (0#64, false)) := .new
  have c2' : Cel (h3.new (rowOf 55 (vC (0#64, false)))) h0.next 55 (vC a) := c2.ext .new n2
  have ne : h0.next ≠ h3.next := fun e => by rw [e] at n2; omega
  have n5 : h0.next.nat < (h3.new (rowOf 55 (vC (0#64, false)))).next.nat := by rw [Bq]; omega
  have n6 : h3.next.nat < (h3.new (rowOf 55 (vC (0#64, false)))).next.nat := by rw [Bq]; omega
  generalize h3.new (rowOf 55 (vC (0#64, false))) = h5 at c4 c2' n5 n6 ⊢
  have fin : ∀ (x : BitVec 64), ((if s = [60, 60] then a.1 <<< n else if a.2 then a.1 >>> n else a.1.sshiftRight n) = x) → st1 (.ptr h0.next (0 + 0)) (uI x) h5 (fun h11 => ldn 2 (.ptr h0.next 0) h11 fun v12 => stn 2 (.ptr h3.next 0) v12 h11 fun h13 => ldn 2 (.ptr h3.next 0) h13 fun v14 => v14 = vI (shB s a n)) := fun x hx => by
    refine c2'.st1 (j := 0) (by simp) rfl fun h6 f6 c6 => ?_
    refine c6.atp.ldn rfl ?_
    refine (c4.fr f6 n6 (Ne.symm ne)).stn (cs' := [uI x, .bool a.2]) rfl rfl (by decide) fun h7 f7 c7 => ?_
    refine c7.atp.ldn rfl ?_
    unfold shB; rw [hx]
  rw [Ci (s := s) (t := [60, 60]) (l := 2) (c := 15420) rfl rfl]
  refine Bk (fun e => ?_) (fun e => ?_)
  · have e : s = [60, 60] := of_decide_eq_true e
    rw [Aj]
    refine c2'.atp.ld1 (j := 0) (by simp) ?_
    show asI .u64 (uI a.1) _
    rw [Ar]
    refine A8y hn ?_
    rw [Aj]
    exact fin _ (if_pos e)
  · have e : ¬ s = [60, 60] := of_decide_eq_false e
    rw [Aj]
    refine c2'.atp.ld1 (j := 1) (by simp) ?_
    show asB (.bool a.2) _
    rw [Ay]
    refine Bk (fun e2 => ?_) (fun e2 => ?_)
    · rw [Aj]
      refine c2'.atp.ld1 (j := 0) (by simp) ?_
      show asI .u64 (uI a.1) _
      rw [Ar]
      refine A8w hn ?_
      rw [Aj]
      exact fin _ (by rw [if_neg e, if_pos e2])
    · rw [Aj]
      refine c2'.atp.ld1 (j := 0) (by simp) ?_
      show asI .u64 (uI a.1) _
      rw [Ar, wI, As]
      refine A8x hn ?_
      rw [wU, As, Aj]
      exact fin _ (by rw [if_neg e, if_neg (by rw [e2]; simp)])
end Go.Den
