/-
  A part of the proof.
-/
import Derived.Test.YtcnmehbkpaoolaaGreatDoorL13
import Derived.Test.YtcnmehbkpaoolaaGreatDoorSkp
namespace Go.Den
open Go.RowKit
open Go.Pre (V Ir vz Ew Kg Jo Jm Hx shB)
set_option maxRecDepth 100000
theorem Anz (v : V) : Hi env .eql 55 (vI v) (vI v) = some (.bool true) := by
  have e : Hi env .eql 55 (.agg [.int .u64 (Int.ofNat v.1.toNat), .bool v.2]) (.agg [.int .u64 (Int.ofNat v.1.toNat), .bool v.2]) = Option.map AV.bool (Bool.rec (some false) (Bool.rec (some false) (some true) (Afe v.2 v.2)) (Av (Int.ofNat v.1.toNat) (Int.ofNat v.1.toNat))) := by kernel_rfl
  show Hi env .eql 55 (.agg [.int .u64 (Int.ofNat v.1.toNat), .bool v.2]) (.agg [.int .u64 (Int.ofNat v.1.toNat), .bool v.2]) = _
  rw [e, Abq, show Av (Int.ofNat v.1.toNat) (Int.ofNat v.1.toNat) = true by rw [Ez]; simp]; rfl
theorem Lxs.nK0 (n : Int) (un : Bool) : Lxs (wrN n un) (Go.Den.nK n un) := by
  have := Lxs.nK (n := n) (un := un) .nil trivial
  rw [List.append_nil, List.append_nil] at this
  exact this
theorem Lxs.par {n : Int} {un : Bool} {r : List UInt8} {ts : List Cb} (h : Lxs r ts) : Lxs (40 :: (wrN n un ++ 41 :: r)) (Go.Pre.P [40] :: (Go.Den.nK n un ++ Go.Pre.P [41] :: ts)) :=
  Lxs.op1 (x := 40) (Lxs.nK (h.op1 (x := 41) (.inr (.inl rfl))) (by show Go.Lx.Rl 41 = true; decide)) (.inl rfl)
def tsa (a b : Int) (un : Bool) : List UInt8 := (wrN a un ++ [32, 60, 60, 32]) ++ wrN b false
def tsb (a b : Int) (un : Bool) : List UInt8 := (([40] ++ wrN a un) ++ [41, 32, 62, 62, 32]) ++ wrN b false
def tsc (a : Int) (un : Bool) : List UInt8 := ([45, 40] ++ wrN a un) ++ [41]
def tsd (a : Int) (un : Bool) : List UInt8 := [126, 32] ++ wrN a un
def tse (a : Int) (un : Bool) : List UInt8 := ([33, 33, 40] ++ wrN a un) ++ [41]
theorem Bgk (a b : Int) (un : Bool) : Lxs (tsa a b un) (nK a un ++ Go.Pre.P [60, 60] :: nK b false) := by
  have e : tsa a b un = wrN a un ++ 32 :: ([60, 60] ++ 32 :: wrN b false) := by unfold tsa; simp
  rw [e]
  exact Lxs.nK (.blank (.op (.blank (.nK0 b false)) (by decide) (by decide))) (by show Go.Lx.Rl 32 = true; decide)
theorem Bgj (a b : Int) (un : Bool) : Lxs (tsb a b un) ((Go.Pre.P [40] :: (nK a un ++ [Go.Pre.P [41]])) ++ Go.Pre.P [62, 62] :: nK b false) := by
  have e : tsb a b un = 40 :: (wrN a un ++ 41 :: 32 :: ([62, 62] ++ 32 :: wrN b false)) := by unfold tsb; simp
  have e2 : (Go.Pre.P [40] :: (nK a un ++ [Go.Pre.P [41]])) ++ Go.Pre.P [62, 62] :: nK b false = Go.Pre.P [40] :: (nK a un ++ Go.Pre.P [41] :: Go.Pre.P [62, 62] :: nK b false) := by simp
  rw [e, e2]
  exact Lxs.par (.blank (.op (.blank (.nK0 b false)) (by decide) (by decide)))
theorem Bgi (a : Int) (un : Bool) : Lxs (tsc a un) (Go.Pre.P [45] :: Go.Pre.P [40] :: (nK a un ++ [Go.Pre.P [41]])) := by
  have e : tsc a un = [45] ++ 40 :: (wrN a un ++ 41 :: []) := by unfold tsc; simp
  rw [e]
  exact Lxs.op (Lxs.par .nil) (by decide) (by decide)
theorem Bgh (a : Int) (un : Bool) : Lxs (tsd a un) (Go.Pre.P [126] :: nK a un) := by
  have e : tsd a un = 126 :: 32 :: wrN a un := by unfold tsd; simp
  rw [e]
  exact Lxs.op1 (.blank (.nK0 a un)) (.inr (.inr (.inl rfl)))
theorem Bgg (a : Int) (un : Bool) : Lxs (tse a un) (Go.Pre.P [33] :: Go.Pre.P [33] :: Go.Pre.P [40] :: (nK a un ++ [Go.Pre.P [41]])) := by
  have e : tse a un = 33 :: 33 :: 40 :: (wrN a un ++ 41 :: []) := by unfold tse; simp
  rw [e]
  have h1 : Lxs (33 :: 40 :: (wrN a un ++ 41 :: [])) (Go.Pre.P [33] :: Go.Pre.P [40] :: (nK a un ++ [Go.Pre.P [41]])) := Lxs.tok (x := 33) (w := []) (Lxs.par .nil) (by decide) (by decide) rfl rfl
  exact h1.tok (x := 33) (w := []) (by decide) (by decide) rfl rfl
theorem A9c (a b : Int) (un : Bool) : (∀ x ∈ tsa a b un, x ≠ 10) ∧ Go.Lx.Hu (tsa a b un) = true := (((okN a un).app (.lit (by decide))).app (okN b false)).q
theorem A9b (a b : Int) (un : Bool) : (∀ x ∈ tsb a b un, x ≠ 10) ∧ Go.Lx.Hu (tsb a b un) = true := (((okS.app (.lit (by decide)) (okN a un)).app (.lit (by decide))).app (okN b false)).q
theorem A9a (a : Int) (un : Bool) : (∀ x ∈ tsc a un, x ≠ 10) ∧ Go.Lx.Hu (tsc a un) = true := ((okS.app (.lit (by decide)) (okN a un)).app (.lit (by decide))).q
theorem A89 (a : Int) (un : Bool) : (∀ x ∈ tsd a un, x ≠ 10) ∧ Go.Lx.Hu (tsd a un) = true := (okS.app (.lit (by decide)) (okN a un)).q
theorem A88 (a : Int) (un : Bool) : (∀ x ∈ tse a un, x ≠ 10) ∧ Go.Lx.Hu (tse a un) = true := ((okS.app (.lit (by decide)) (okN a un)).app (.lit (by decide))).q
theorem Ph (n : Int) (un : Bool) : 1 ≤ (nK n un).length := by unfold nK; simp
section
variable {a b : Int} {un : Bool} (h1 : -9223372036854775808 ≤ a) (h2 : a ≤ 9223372036854775807)
include h1 h2
theorem Bh8 (hb : 0 ≤ b ∧ b ≤ 1000) : Hg (nK a un ++ Go.Pre.P [60, 60] :: nK b false) = some (BitVec.ofInt 64 a <<< (b.toNat &&& 63), un) := by
  rw [ev2 (Odn.nK h1 h2) (Odn.nK (by omega) (by omega)) (by decide) (Ph _ _) (Nat.zero_le _)]
  have e : (BitVec.ofInt 64 b &&& 63#64).toNat = b.toNat &&& 63 := by
    rw [BitVec.toNat_and, BitVec.toNat_ofInt]
    have : (b % ((2 ^ 64 : Nat) : Int)).toNat = b.toNat := by
      rw [show ((2 ^ 64 : Nat) : Int) = 18446744073709551616 by decide]; omega
    rw [this]; rfl
  have e2 : (b % 18446744073709551616).toNat = b.toNat := by omega
  simp [f2, twT, Go.Pre.two, Hx, Go.Pre.P, nV, shB, e2]
theorem Bh7 (hb : 0 ≤ b ∧ b ≤ 1000) : Hg ((Go.Pre.P [40] :: (nK a un ++ [Go.Pre.P [41]])) ++ Go.Pre.P [62, 62] :: nK b false) = some (if un then BitVec.ofInt 64 a >>> (b.toNat &&& 63) else (BitVec.ofInt 64 a).sshiftRight (b.toNat &&& 63), un) := by
  rw [ev2 (Odn.nK h1 h2).p1 ((Odn.nK (by omega) (by omega)).mono (Nat.zero_le _)) (by decide) (by simp) (by simp)]
  have e : (BitVec.ofInt 64 b &&& 63#64).toNat = b.toNat &&& 63 := by
    rw [BitVec.toNat_and, BitVec.toNat_ofInt]
    have : (b % ((2 ^ 64 : Nat) : Int)).toNat = b.toNat := by
      rw [show ((2 ^ 64 : Nat) : Int) = 18446744073709551616 by decide]; omega
    rw [this]; rfl
  have e2 : (b % 18446744073709551616).toNat = b.toNat := by omega
  simp [f2, twT, Go.Pre.two, Hx, Go.Pre.P, nV, shB, e2]
theorem Bh6 : Hg (Go.Pre.P [45] :: Go.Pre.P [40] :: (nK a un ++ [Go.Pre.P [41]])) = some (-BitVec.ofInt 64 a, un) := by
  rw [ev1 (Odn.nK h1 h2).p1.neg (by simp)]; rfl
theorem Bh5 : Hg (Go.Pre.P [126] :: nK a un) = some (~~~BitVec.ofInt 64 a, un) := by
  rw [ev1 (Odn.nK h1 h2).inv (by simp)]; rfl
theorem Bh4 : Hg (Go.Pre.P [33] :: Go.Pre.P [33] :: Go.Pre.P [40] :: (nK a un ++ [Go.Pre.P [41]])) = some (Ir (decide (a ≠ 0))) := by
  rw [ev1 (Odn.nK h1 h2).p1.not.not (by simp)]
  have hz := Ake (n := a) (un := un) h1 h2
  show some (Jm (Jm (nV a un))) = _
  unfold Jm
  rw [hz]
  by_cases e : a = 0
  · rw [decide_eq_true e, decide_eq_false (fun h => h e)]; rfl
  · rw [decide_eq_false e, decide_eq_true e]; rfl
end
theorem Ow {a : Int} (h1 : -9223372036854775808 ≤ a) (h2 : a ≤ 9223372036854775807) : (BitVec.ofInt 64 a).toInt = a := by
  rw [BitVec.toInt_ofInt]
  exact Int.bmod_eq_of_le (by omega) (by omega)
theorem Bcp {a : Int} {m n : Nat} {un : Bool} {x : BitVec 64} {h5 : H} {p1 p2 p3 p4 p5 : P} (_h1' : -9223372036854775808 ≤ a) (_h2' : a ≤ 9223372036854775807) (hm : m ≤ 1000) (he : Jk h5)
    (c1 : Cel h5 p1 55 (vC (BitVec.ofInt 64 a <<< (m &&& 63), un))) (c2 : Cel h5 p2 55 (vC (if un then BitVec.ofInt 64 a >>> (m &&& 63) else (BitVec.ofInt 64 a).sshiftRight (m &&& 63), un))) (c3 : Cel h5 p3 55 (vC (-BitVec.ofInt 64 a, un))) (c4 : Cel h5 p4 55 (vC (~~~BitVec.ofInt 64 a, un))) (c5 : Cel h5 p5 55 (vC (Ir (decide (a ≠ 0)))))
    (hx : x = (if un then BitVec.ofInt 64 a >>> (m &&& 63) else (BitVec.ofInt 64 a).sshiftRight (m &&& 63))) : (r13 W1 kT (n + 1)).a1 a (Int.ofNat m) un (.ptr p1 0) true (.ptr p2 0) true (.ptr p3 0) true (.ptr p4 0) true (.ptr p5 0) true (Int.ofNat x.toNat) h5 := by
  have hn : m &&& 63 < 64 := Nat.lt_of_le_of_lt Nat.and_le_right (by decide)
  refine Bao ?_
  unfold Alb
  rw [wOf, As]
  refine Ai4 (by omega) (by decide) ?_
  refine A8y hn ?_
  refine c1.atp.ldn rfl ?_
  rw [Ahi, Ag]
  show oV (Hi env .eql 55 (vI (BitVec.ofInt 64 a <<< (m &&& 63), un)) (vI (BitVec.ofInt 64 a <<< (m &&& 63), un))) _
  rw [Anz, Db, Ay]
  refine Ec rfl ?_
  refine c2.atp.ldn rfl ?_
  rw [Ahi, Ag, hx]
  show oV (Hi env .eql 55 (vI (if un then BitVec.ofInt 64 a >>> (m &&& 63) else (BitVec.ofInt 64 a).sshiftRight (m &&& 63), un)) (vI (if un then BitVec.ofInt 64 a >>> (m &&& 63) else (BitVec.ofInt 64 a).sshiftRight (m &&& 63), un))) _
  rw [Anz, Db, Ay]
  refine Ec rfl ?_
  refine c3.atp.ldn rfl ?_
  rw [As, Ay2, Db, Ar, Ahi, Ag]
  show oV (Hi env .eql 55 (vI (-BitVec.ofInt 64 a, un)) (vI (-BitVec.ofInt 64 a, un))) _
  rw [Anz, Db, Ay]
  refine Ec rfl ?_
  refine c4.atp.ldn rfl ?_
  rw [As, A77, Db, Ar, Ahi, Ag]
  show oV (Hi env .eql 55 (vI (~~~BitVec.ofInt 64 a, un)) (vI (~~~BitVec.ofInt 64 a, un))) _
  rw [Anz, Db, Ay]
  refine Ec rfl ?_
  refine Ec rfl ?_
  refine Ec rfl ?_
  refine Ec rfl ?_
  refine Ec rfl ?_
  refine Ec rfl ?_
  rw [Aj]
  refine c5.atp.ld1 (j := 1) (by simp) ?_
  show asB (.bool false) _
  rw [Ay]
  refine Ec rfl ?_
  rw [Aj]
  refine c5.atp.ld1 (j := 0) (by simp) ?_
  show asI .u64 (uI (Ir (decide (a ≠ 0))).1) _
  rw [Ar, show Av a (Int.ofNat 0) = decide (a = 0) from Ag8 a 0, show (Int.ofNat 1) = Int.ofNat (1#64).toNat from rfl, Axd, Zo, Db, Ay]
  have hv : (Ir (decide (a ≠ 0))).1 = if a = 0 then 0#64 else 1#64 := by
    unfold Ir
    by_cases e : a = 0
    · rw [decide_eq_false (fun h => h e), if_pos e]; rfl
    · rw [decide_eq_true e, if_neg e]; rfl
  refine Ec ?_ ?_
  · rw [hv]
    by_cases e : a = 0
    · rw [if_pos e, decide_eq_true e]; decide
    · rw [if_neg e, decide_eq_false e]; decide
  rw [Aj]
  refine c5.atp.ld1 (j := 0) (by simp) ?_
  show asI .u64 (uI (Ir (decide (a ≠ 0))).1) _
  rw [Ar, ile]
  refine Ec ?_ ?_
  · rw [hv]
    by_cases e : a = 0
    · rw [if_pos e]; decide
    · rw [if_neg e]; decide
  refine Ln he ?_
  rw [Ay]
theorem c13 (a b : Int) (un : Bool) (h1' : -9223372036854775808 ≤ a) (h2' : a ≤ 9223372036854775807) : SW PP G (.func 13) [.int .i64 a, .int .i64 b, .bool un] h1 kT := by
  refine w13 (n := 3) Ca (g13 ?_)
  unfold Alc
  refine Fk ?_
  refine Bk (fun _ => ?_) (fun e => ?_)
  · refine Ln No ?_
    rw [Ay]
  simp only [Bool.or_eq_false_iff, Gd, decide_eq_false_iff_not, show Int.ofNat 0 = 0 from rfl, show Int.ofNat 1000 = 1000 from rfl] at e
  have hb : 0 ≤ b ∧ b ≤ 1000 := by omega
  clear e
  obtain ⟨m, rfl⟩ : ∃ m : Nat, b = Int.ofNat m := ⟨b.toNat, by show b = ((b.toNat : Nat) : Int); omega⟩
  have hm : m ≤ 1000 := by have := hb.2; have e : Int.ofNat m = (m : Int) := rfl; omega
  refine Ek (c28 a un) ?_
  rw [Di]
  refine Ek (c28 (Int.ofNat m) false) ?_
  rw [Di]
  have lA := (Lq a un).2
  have lB := (Lq (Int.ofNat m) false).2
  have he := No
  generalize h1 = h at he
  refine Bp (s := wrN a un) (t := [32, 60, 60, 32]) (by simp only [List.length_cons, List.length_nil]; omega) ?_
  refine Bp (s := wrN a un ++ [32, 60, 60, 32]) (t := wrN (Int.ofNat m) false) (by simp only [List.length_append, List.length_cons, List.length_nil]; omega) ?_
  refine Jw (s := tsa a (Int.ofNat m) un) he (by unfold tsa; simp) (by unfold tsa; simp only [List.length_append, List.length_cons, List.length_nil]; omega) (A9c _ _ _).1 (A9c _ _ _).2 (Bgk _ _ _) (Ho (Cu (by decide) (Nf _ _))) (Bh8 h1' h2' hb) fun h1 p1 x1 l1 u1 c1 => ?_
  replace he := he.keep x1.1 x1.2
  refine Bp (s := [40]) (t := wrN a un) (by simp only [List.length_cons, List.length_nil]; omega) ?_
  refine Bp (s := [40] ++ wrN a un) (t := [41, 32, 62, 62, 32]) (by simp only [List.length_append, List.length_cons, List.length_nil]; omega) ?_
  refine Bp (s := ([40] ++ wrN a un) ++ [41, 32, 62, 62, 32]) (t := wrN (Int.ofNat m) false) (by simp only [List.length_append, List.length_cons, List.length_nil]; omega) ?_
  refine Jw (s := tsb a (Int.ofNat m) un) he (by unfold tsb; simp) (by unfold tsb; simp only [List.length_append, List.length_cons, List.length_nil]; omega) (A9b _ _ _).1 (A9b _ _ _).2 (Bgj _ _ _) (by rw [List.cons_append, List.append_assoc]; exact Cu (by decide) (Ho (Cu (by decide) (Cu (by decide) (Nf _ _))))) (Bh7 h1' h2' hb) fun h2 p2 x2 l2 u2 c2 => ?_
  replace he := he.keep x2.1 x2.2
  replace c1 := c1.ext x2 u1
  refine Bp (s := [45, 40]) (t := wrN a un) (by simp only [List.length_cons, List.length_nil]; omega) ?_
  refine Bp (s := [45, 40] ++ wrN a un) (t := [41]) (by simp only [List.length_append, List.length_cons, List.length_nil]; omega) ?_
  refine Jw (s := tsc a un) he (by unfold tsc; simp) (by unfold tsc; simp only [List.length_append, List.length_cons, List.length_nil]; omega) (A9a _ _).1 (A9a _ _).2 (Bgi _ _) (Cu (by decide) (Cu (by decide) (Ho (by decide)))) (Bh6 h1' h2') fun h3 p3 x3 l3 u3 c3 => ?_
  replace he := he.keep x3.1 x3.2
  replace c1 := c1.ext x3 (by have := x2.1; omega)
  replace c2 := c2.ext x3 u2
  refine Bp (s := [126, 32]) (t := wrN a un) (by simp only [List.length_cons, List.length_nil]; omega) ?_
  refine Jw (s := tsd a un) he (by unfold tsd; simp) (by unfold tsd; simp only [List.length_append, List.length_cons, List.length_nil]; omega) (A89 _ _).1 (A89 _ _).2 (Bgh _ _) (Cu (by decide) (Nf _ _)) (Bh5 h1' h2') fun h4 p4 x4 l4 u4 c4 => ?_
  replace he := he.keep x4.1 x4.2
  replace c1 := c1.ext x4 (by have := x2.1; have := x3.1; omega)
  replace c2 := c2.ext x4 (by have := x3.1; omega)
  replace c3 := c3.ext x4 u3
  refine Ban ?_
  unfold Ala
  refine Bp (s := [33, 33, 40]) (t := wrN a un) (by simp only [List.length_cons, List.length_nil]; omega) ?_
  refine Bp (s := [33, 33, 40] ++ wrN a un) (t := [41]) (by simp only [List.length_append, List.length_cons, List.length_nil]; omega) ?_
  refine Jw (s := tse a un) he (by unfold tse; simp) (by unfold tse; simp only [List.length_append, List.length_cons, List.length_nil]; omega) (A88 _ _).1 (A88 _ _).2 (Bgg _ _) (Cu (by decide) (Cu (by decide) (Cu (by decide) (Ho (by decide))))) (Bh4 h1' h2') fun h5 p5 x5 l5 u5 c5 => ?_
  replace he := he.keep x5.1 x5.2
  replace c1 := c1.ext x5 (by have := x2.1; have := x3.1; have := x4.1; omega)
  replace c2 := c2.ext x5 (by have := x3.1; have := x4.1; omega)
  replace c3 := c3.ext x5 (by have := x4.1; omega)
  replace c4 := c4.ext x5 u4
  have hn : m &&& 63 < 64 := Nat.lt_of_le_of_lt Nat.and_le_right (by decide)
  have ht : (Int.ofNat m).toNat = m := rfl
  rw [ht] at c1 c2
  refine Ai4 (by omega) (by decide) ?_
  have last := fun x hx => Bcp (n := 0) (a := a) (m := m) (un := un) (x := x) h1' h2' hm he c1 c2 c3 c4 c5 hx
  have sS : ∀ K : Int → Prop, K ((BitVec.ofInt 64 a).sshiftRight (m &&& 63)).toInt → Ab6 .i64 a (Int.ofNat (m &&& 63)) K := fun K hK => by
    have := A8x (a := BitVec.ofInt 64 a) hn hK
    rw [Ow h1' h2'] at this
    exact this
  refine sS _ ?_
  rw [wU, As]
  refine Bk (fun e => ?_) (fun e => ?_)
  · rw [wOf, As]
    refine Ai4 (by omega) (by decide) ?_
    refine A8w hn ?_
    exact last (BitVec.ofInt 64 a >>> (m &&& 63)) (by rw [if_pos e])
  · exact last ((BitVec.ofInt 64 a).sshiftRight (m &&& 63)) (by rw [if_neg (by rw [e]; simp)])
end Go.Den
namespace Go.Den
open Go.RowKit
open Go.Pre (V Ir vz Ew Kg Jo Jm Hx shB Ae0 Oi)
set_option maxRecDepth 100000
theorem Rd.Bav {h : H} {v : AV} {cs : List AV} (hr : Rd 1 h v (cs.map fun c => [c])) {i : Nat} (hi : i < cs.length) {K : AV → Prop} (hk : K cs[i]) : Cc 1 i v fun a => Go.Den.ld1 a h K := by
  refine hr.elem (i := i) (by rw [List.length_map]; exact hi) fun q o _ _ ha => ?_
  rw [List.getElem_map] at ha
  exact ha.ld1 (j := 0) Nat.one_pos hk
theorem Avv : ∀ o ∈ opsL, ∃ x w, o = x :: w ∧ Go.Lx.Rl x = true := by
  intro o ho
  simp only [opsL, List.mem_cons, List.not_mem_nil, or_false] at ho
  rcases ho with rfl | rfl | rfl | rfl | rfl | rfl | rfl | rfl | rfl | rfl | rfl | rfl | rfl | rfl | rfl | rfl | rfl | rfl <;> exact ⟨_, _, rfl, by decide⟩
theorem Aer {o r : List UInt8} (ho : o ∈ opsL) : Ash (o ++ r) := by
  obtain ⟨x, w, rfl, h⟩ := Avv o ho
  exact h
theorem Lxs.opN {o : List UInt8} {n : Int} {un : Bool} {r : List UInt8} {ts : List Cb} (h : Lxs (wrN n un ++ r) ts) (ho : o ∈ opsL) : Lxs (o ++ (wrN n un ++ r)) ((5, o) :: ts) := by
  obtain ⟨c, x, e, hc⟩ := Aow n un
  rw [e] at h ⊢
  exact Lxs.op h ho hc
theorem okO {o : List UInt8} (ho : o ∈ opsL) : okS o ∧ o.length ≤ 2 := by
  have : ∀ o ∈ opsL, o.all (fun x => x != 10 && x != 63) = true ∧ o.length ≤ 2 := by decide
  exact ⟨.lit (this o ho).1, (this o ho).2⟩
theorem Pt {o : List UInt8} (ho : o ∈ opsL) : okT (Go.Pre.P o) := ⟨by have := (okO ho).2; show o.length ≤ 1000; omega, by show (5 : Nat) ≠ 3; decide⟩
end Go.Den
