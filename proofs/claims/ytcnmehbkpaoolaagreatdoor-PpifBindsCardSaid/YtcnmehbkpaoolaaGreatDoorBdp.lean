/-
  A part of the proof.
-/
import Derived.Test.YtcnmehbkpaoolaaGreatDoorL11
import Derived.Test.YtcnmehbkpaoolaaGreatDoorOpp
noncomputable section
namespace Go.Den
open Go.RowKit
open Go.Pre (V Ir vz Ew Kg Jo Jm Hx)
set_option maxRecDepth 100000
def A99 : List Nat := [0, 1, 2, 3, 4, 5, 5, 6, 6, 6, 6, 7, 7, 8, 8, 9, 9, 9]
def Atz : Tm := Option.rec .e (fun t => t) (Gw (Ft 1) 18 [(0, (.str 2 31868)), (1, (.str 2 9766)), (2, (.str 1 124)), (3, (.str 1 94)), (4, (.str 1 38)), (5, (.str 2 15677)), (6, (.str 2 15649)), (7, (.str 1 60)), (8, (.str 1 62)), (9, (.str 2 15676)), (10, (.str 2 15678)), (11, (.str 2 15420)), (12, (.str 2 15934)), (13, (.str 1 43)), (14, (.str 1 45)), (15, (.str 1 42)), (16, (.str 1 47)), (17, (.str 1 37))] (Aq (Gf [.str 0 0] 18) 0 .e))
theorem Bjg (h : H) : Ak env 44 (fun e ei => Ae 18 [(0, (.str 2 31868)), (1, (.str 2 9766)), (2, (.str 1 124)), (3, (.str 1 94)), (4, (.str 1 38)), (5, (.str 2 15677)), (6, (.str 2 15649)), (7, (.str 1 60)), (8, (.str 1 62)), (9, (.str 2 15676)), (10, (.str 2 15678)), (11, (.str 2 15420)), (12, (.str 2 15934)), (13, (.str 1 43)), (14, (.str 1 45)), (15, (.str 1 42)), (16, (.str 1 47)), (17, (.str 1 37))] h e ei) = some (.slice h.next 0 18 1 true, h.new (.row Atz 18 0 9 true)) := by kernel_rfl
theorem Bip : Bf Atz 18 0 = opsL.map fun s => S s := by kernel_rfl
def At0 : Tm := Option.rec .e (fun t => t) (Gw (Ft 1) 18 [(0, (.int .i64 (Int.ofNat 0))), (1, (.int .i64 (Int.ofNat 1))), (2, (.int .i64 (Int.ofNat 2))), (3, (.int .i64 (Int.ofNat 3))), (4, (.int .i64 (Int.ofNat 4))), (5, (.int .i64 (Int.ofNat 5))), (6, (.int .i64 (Int.ofNat 5))), (7, (.int .i64 (Int.ofNat 6))), (8, (.int .i64 (Int.ofNat 6))), (9, (.int .i64 (Int.ofNat 6))), (10, (.int .i64 (Int.ofNat 6))), (11, (.int .i64 (Int.ofNat 7))), (12, (.int .i64 (Int.ofNat 7))), (13, (.int .i64 (Int.ofNat 8))), (14, (.int .i64 (Int.ofNat 8))), (15, (.int .i64 (Int.ofNat 9))), (16, (.int .i64 (Int.ofNat 9))), (17, (.int .i64 (Int.ofNat 9)))] (Aq (Gf [.int .i64 (Int.ofNat 0)] 18) 0 .e))
theorem Bjh (h : H) : Ak env 51 (fun e ei => Ae 18 [(0, (.int .i64 (Int.ofNat 0))), (1, (.int .i64 (Int.ofNat 1))), (2, (.int .i64 (Int.ofNat 2))), (3, (.int .i64 (Int.ofNat 3))), (4, (.int .i64 (Int.ofNat 4))), (5, (.int .i64 (Int.ofNat 5))), (6, (.int .i64 (Int.ofNat 5))), (7, (.int .i64 (Int.ofNat 6))), (8, (.int .i64 (Int.ofNat 6))), (9, (.int .i64 (Int.ofNat 6))), (10, (.int .i64 (Int.ofNat 6))), (11, (.int .i64 (Int.ofNat 7))), (12, (.int .i64 (Int.ofNat 7))), (13, (.int .i64 (Int.ofNat 8))), (14, (.int .i64 (Int.ofNat 8))), (15, (.int .i64 (Int.ofNat 9))), (16, (.int .i64 (Int.ofNat 9))), (17, (.int .i64 (Int.ofNat 9)))] h e ei) = some (.slice h.next 0 18 1 true, h.new (.row At0 18 0 3 true)) := by kernel_rfl
theorem Biq : Bf At0 18 0 = A99.map fun n => .int .i64 (Int.ofNat n) := by kernel_rfl
theorem Aq2 : ∀ r : Fin 18, lvT (Go.Pre.P (opsL[r.1]'r.2)) = A99[r.1]'r.2 + 1 := by decide
section
variable (a b c : Int) {x y : List UInt8} (hx : x ∈ opsL) (hy : y ∈ opsL)
def tb1 (a b c : Int) (x y : List UInt8) : List UInt8 := (((((((wrN a false ++ [32]) ++ x) ++ [32]) ++ wrN b false) ++ [32]) ++ y) ++ [32]) ++ wrN c false
def tb2 (a b c : Int) (x y : List UInt8) : List UInt8 := ((((([40] ++ wrN a false) ++ x) ++ wrN b false) ++ [41]) ++ y) ++ wrN c false
def tb3 (a b c : Int) (x y : List UInt8) : List UInt8 := (((((wrN a false ++ x) ++ [40]) ++ wrN b false) ++ y) ++ wrN c false) ++ [41]
include hx hy
theorem Bgf : Lxs (tb1 a b c x y) (nK a false ++ Go.Pre.P x :: (nK b false ++ Go.Pre.P y :: nK c false)) := by
  have e : tb1 a b c x y = wrN a false ++ 32 :: (x ++ 32 :: (wrN b false ++ 32 :: (y ++ 32 :: wrN c false))) := by unfold tb1; simp
  rw [e]
  exact Lxs.nK (.blank (.op (.blank (Lxs.nK (.blank (.op (.blank (.nK0 c false)) hy (by decide))) (Ud _))) hx (by decide))) (Ud _)
theorem Bge : Lxs (tb2 a b c x y) ((Go.Pre.P [40] :: (nK a false ++ Go.Pre.P x :: (nK b false ++ [Go.Pre.P [41]]))) ++ Go.Pre.P y :: nK c false) := by
  have e : tb2 a b c x y = 40 :: (wrN a false ++ (x ++ (wrN b false ++ 41 :: (y ++ (wrN c false ++ []))))) := by unfold tb2; simp
  have e2 : (Go.Pre.P [40] :: (nK a false ++ Go.Pre.P x :: (nK b false ++ [Go.Pre.P [41]]))) ++ Go.Pre.P y :: nK c false = Go.Pre.P [40] :: (nK a false ++ Go.Pre.P x :: (nK b false ++ Go.Pre.P [41] :: Go.Pre.P y :: (nK c false ++ []))) := by simp
  rw [e, e2]
  exact Lxs.op1 (Lxs.nK (Lxs.opN (Lxs.nK (Lxs.op1 (Lxs.opN (Lxs.nK .nil trivial) hy) (.inr (.inl rfl))) (Amm _)) hx) (Aer hx)) (.inl rfl)
theorem Bgd : Lxs (tb3 a b c x y) (nK a false ++ Go.Pre.P x :: (Go.Pre.P [40] :: (nK b false ++ Go.Pre.P y :: (nK c false ++ [Go.Pre.P [41]])))) := by
  have e : tb3 a b c x y = wrN a false ++ (x ++ 40 :: (wrN b false ++ (y ++ (wrN c false ++ 41 :: [])))) := by unfold tb3; simp
  rw [e]
  exact Lxs.nK (Lxs.op (Lxs.op1 (Lxs.nK (Lxs.opN (Lxs.nK (Lxs.op1 .nil (.inr (.inl rfl))) (Amm _)) hy) (Aer hy)) (.inl rfl)) hx (by decide)) (Aer hx)
theorem Bf4 : (∀ z ∈ tb1 a b c x y, z ≠ 10) ∧ Go.Lx.Hu (tb1 a b c x y) = true := ((((((((okN a false).app (.lit (by decide))).app (okO hx).1).app (.lit (by decide))).app (okN b false)).app (.lit (by decide))).app (okO hy).1).app (.lit (by decide)) |>.app (okN c false)).q
theorem Bf3 : (∀ z ∈ tb2 a b c x y, z ≠ 10) ∧ Go.Lx.Hu (tb2 a b c x y) = true := ((((((okS.app (.lit (by decide)) (okN a false)).app (okO hx).1).app (okN b false)).app (.lit (by decide))).app (okO hy).1).app (okN c false)).q
theorem Bf2 : (∀ z ∈ tb3 a b c x y, z ≠ 10) ∧ Go.Lx.Hu (tb3 a b c x y) = true := (((((((okN a false).app (okO hx).1).app (.lit (by decide))).app (okN b false)).app (okO hy).1).app (okN c false)).app (.lit (by decide))).q
end
section
variable {a b c : Int} {x y : List UInt8} (ha : 0 ≤ a ∧ a ≤ 1000) (hb : 0 ≤ b ∧ b ≤ 1000) (hc : 0 ≤ c ∧ c ≤ 1000) (hx : lvT (Go.Pre.P x) ≠ 0) (hy : lvT (Go.Pre.P y) ≠ 0)
include ha hb hc hx hy
theorem A39 (h : lvT (Go.Pre.P x) < lvT (Go.Pre.P y)) : Hg (nK a false ++ Go.Pre.P x :: (nK b false ++ Go.Pre.P y :: nK c false)) = Hg (nK a false ++ Go.Pre.P x :: (Go.Pre.P [40] :: (nK b false ++ Go.Pre.P y :: (nK c false ++ [Go.Pre.P [41]])))) := by
  have oa := Odn.nK (n := a) (un := false) (by omega) (by omega)
  have ob := Odn.nK (n := b) (un := false) (by omega) (by omega)
  have oc := Odn.nK (n := c) (un := false) (by omega) (by omega)
  rw [A38 oa ob oc hx h (Ph _ _) (Nat.zero_le _), ev2 (oa.mono (Nat.zero_le 1)) (ob.p2 oc hy (Ph _ _)) hx (Ph _ _) (by have := Ph a false; rw [List.length_append]; omega)]
theorem A4a (h : ¬ lvT (Go.Pre.P x) < lvT (Go.Pre.P y)) : Hg (nK a false ++ Go.Pre.P x :: (nK b false ++ Go.Pre.P y :: nK c false)) = Hg ((Go.Pre.P [40] :: (nK a false ++ Go.Pre.P x :: (nK b false ++ [Go.Pre.P [41]]))) ++ Go.Pre.P y :: nK c false) := by
  have oa := Odn.nK (n := a) (un := false) (by omega) (by omega)
  have ob := Odn.nK (n := b) (un := false) (by omega) (by omega)
  have oc := Odn.nK (n := c) (un := false) (by omega) (by omega)
  rw [Bh1 oa ob oc hx hy (by omega) (Ph _ _) (Nat.zero_le _), ev2 (oa.p2 ob hx (Ph _ _)) (oc.mono (Nat.zero_le 1)) hy (by simp) (by simp)]
end
theorem Ayk {h : H} {p : P} {o : Option V} {s : List UInt8} {ts : List Cb} {n : Nat} (he : Jk h) (c : Cel h p 55 (vC (o.getD (0#64, false)))) (hp : p.nat < h.next.nat) (hs0 : s ≠ []) (hl : s.length ≤ 900000) (hq : (∀ x ∈ s, x ≠ 10) ∧ Go.Lx.Hu s = true) (hx : Lxs s ts) (htx : ∀ t ∈ ts, okT t) (ho : Hg ts = o) :
    (r11 W1 kT (n + 1)).a1 (.ptr p 0) o.isSome s.length (enc s) h := by
  refine Baq ?_
  unfold Ale
  refine Jw he hs0 hl hq.1 hq.2 hx htx ho fun h1 q x1 l1 u1 c1 => ?_
  rw [Zo, Db, Ay, decide_eq_true rfl]
  refine Ec rfl ?_
  refine (c.ext x1 hp).atp.ldn rfl ?_
  refine c1.atp.ldn rfl ?_
  show oV (Hi env .eql 55 (vI (o.getD (0#64, false))) (vI (o.getD (0#64, false)))) _
  rw [Anz, Db, Ay]
  refine Ec rfl ?_
  refine Ln (he.keep x1.1 x1.2) ?_
  rw [Ay]
theorem c11 (a b c x y : Int) : SW PP G (.func 11) [.int .i64 a, .int .i64 b, .int .i64 c, .int .i64 x, .int .i64 y] h1 kT := by
  refine w11 (n := 4) Ca (g11 ?_)
  unfold Alf
  have he := No
  generalize h1 = h at he
  rw [Bjg, Ag]
  have r1 := Oe (e := 9) Bip rfl h
  have x1 : Exh h (h.new (.row Atz 18 0 9 true)) := .new
  have n1 : h.next.nat < (h.new (.row Atz 18 0 9 true)).next.nat := by rw [Bq]; omega
  generalize h.new (.row Atz 18 0 9 true) = h1 at r1 x1 n1 ⊢
  rw [Bjh, Ag]
  have r2 := A0w (e := 3) Biq rfl h1
  have x2 : Exh h1 (h1.new (.row At0 18 0 3 true)) := .new
  have n2 : h1.next.nat < (h1.new (.row At0 18 0 3 true)).next.nat := by rw [Bq]; omega
  replace r1 := r1.ext x2
  replace x1 := x1.trans x2
  generalize h1.new (.row At0 18 0 3 true) = h2 at r1 r2 x1 n2 ⊢
  have d1 : h.next ≠ h2.next := fun e => by rw [e] at n1; omega
  have d2 : h1.next ≠ h2.next := fun e => by rw [e] at n2; omega
  generalize h.next = pa at r1 d1 ⊢
  generalize h1.next = pb at r2 d2 ⊢
  replace he := he.keep x1.1 x1.2
  refine Fk ?_
  refine Fk ?_
  refine Fk ?_
  refine Fk ?_
  refine Fk ?_
  refine Bk (fun _ => ?_) (fun e => ?_)
  · refine Ln he ?_
    rw [Ay]
  simp only [Bool.or_eq_false_iff, Gd, decide_eq_false_iff_not, show Int.ofNat 0 = 0 from rfl, show Int.ofNat 1 = 1 from rfl, show Int.ofNat 1000 = 1000 from rfl] at e
  have ha : 0 ≤ a ∧ a ≤ 1000 := by omega
  have hb : 0 ≤ b ∧ b ≤ 1000 := by omega
  have hc : 0 ≤ c ∧ c ≤ 1000 := by omega
  clear e
  obtain ⟨r, hr, hpr⟩ := c23 x (m := 18) (by decide) (by decide)
  obtain ⟨q, hq, hpq⟩ := c23 y (m := 18) (by decide) (by decide)
  refine Ek hpr ?_
  rw [Ar]
  refine Ek hpq ?_
  rw [Ar]
  refine Ek (c28 a false) ?_
  rw [Di]
  refine Ek (c28 b false) ?_
  rw [Di]
  refine Ek (c28 c false) ?_
  rw [Di]
  have lA := (Lq a false).2
  have lB := (Lq b false).2
  have lC := (Lq c false).2
  have lvx := Aq2 ⟨r, hr⟩
  have lvy := Aq2 ⟨q, hq⟩
  have hX : opsL[r]'hr ∈ opsL := List.getElem_mem _
  have hY : opsL[q]'hq ∈ opsL := List.getElem_mem _
  simp only [] at lvx lvy
  have lX := (okO hX).2
  have lY := (okO hY).2
  refine Bp (s := wrN a false) (t := [32]) (by simp; omega) ?_
  rw [Be]
  refine r1.elem (i := r) (by rw [Pq]; exact hr) fun qx ox nx _ atx => ?_
  rw [Zn (l := opsL) hr] at atx
  refine atx.ld1 (j := 0) Nat.one_pos ?_
  show asS (S (opsL[r]'hr)) _
  rw [Di]
  refine Bp (s := wrN a false ++ [32]) (t := opsL[r]'hr) (by simp; omega) ?_
  refine Bp (s := (wrN a false ++ [32]) ++ opsL[r]'hr) (t := [32]) (by simp; omega) ?_
  refine Bp (s := ((wrN a false ++ [32]) ++ opsL[r]'hr) ++ [32]) (t := wrN b false) (by simp; omega) ?_
  refine Bp (s := (((wrN a false ++ [32]) ++ opsL[r]'hr) ++ [32]) ++ wrN b false) (t := [32]) (by simp; omega) ?_
  rw [Be]
  refine r1.elem (i := q) (by rw [Pq]; exact hq) fun qy oy ny _ aty => ?_
  rw [Zn (l := opsL) hq] at aty
  refine aty.ld1 (j := 0) Nat.one_pos ?_
  show asS (S (opsL[q]'hq)) _
  rw [Di]
  refine Bp (s := ((((wrN a false ++ [32]) ++ opsL[r]'hr) ++ [32]) ++ wrN b false) ++ [32]) (t := opsL[q]'hq) (by simp; omega) ?_
  refine Bp (s := (((((wrN a false ++ [32]) ++ opsL[r]'hr) ++ [32]) ++ wrN b false) ++ [32]) ++ opsL[q]'hq) (t := [32]) (by simp; omega) ?_
  refine Bp (s := ((((((wrN a false ++ [32]) ++ opsL[r]'hr) ++ [32]) ++ wrN b false) ++ [32]) ++ opsL[q]'hq) ++ [32]) (t := wrN c false) (by simp; omega) ?_
  refine Dk ?_
  have c67 : Cel (h2.new Dd) h2.next 55 (vC (0#64, false)) := Ll
  have x3 : Exh h2 (h2.new Dd) := .new
  have n3 : h2.next.nat < (h2.new Dd).next.nat := by rw [Bq]; omega
  have m67 : 13 ≤ h2.next.nat := he.2.2
  have atx3 := atx.ext x3 nx
  have aty3 := aty.ext x3 ny
  replace r1 := r1.ext x3
  replace r2 := r2.ext x3
  replace he := he.keep x3.1 x3.2
  generalize h2.new Dd = h3 at c67 n3 atx3 aty3 r1 r2 he ⊢
  generalize h2.next = p67 at c67 n3 d1 d2 m67 ⊢
  refine atx3.ld1 (j := 0) Nat.one_pos ?_
  show asS (S (opsL[r]'hr)) _
  rw [Di]
  refine Ru avS ?_
  refine aty3.ld1 (j := 0) Nat.one_pos ?_
  show asS (S (opsL[q]'hq)) _
  rw [Di]
  refine Ru avS ?_
  have q1 := Bf4 a b c hX hY
  refine Amj (s := tb1 a b c (opsL[r]'hr) (opsL[q]'hq)) he (by unfold tb1; simp) (by unfold tb1; simp; omega) q1.1 q1.2 (Bgf a b c hX hY) (Ho (Cu (Pt hX) (Ho (Cu (Pt hY) (Nf _ _))))) fun h4 x4 => ?_
  generalize ho : Hg (nK a false ++ Go.Pre.P (opsL[r]'hr) :: (nK b false ++ Go.Pre.P (opsL[q]'hq) :: nK c false)) = o
  unfold Aqg
  rw [Ic, Ib, Ay]
  refine (c67.ext x4 n3).stn (cs' := vC (o.getD (0#64, false))) rfl rfl (by decide) fun h5 f5 c5 => ?_
  have u5 : h3.next.nat ≤ h5.next.nat := Nat.le_trans x4.1 f5.1
  have x5 : ∀ q : P, q.nat < h3.next.nat → q ≠ p67 → h5.at q = h3.at q := fun q hq hn => by rw [f5.2 q (Nat.lt_of_lt_of_le hq x4.1) hn, x4.2 q hq]
  replace r1 := r1.frame u5 fun c' hc' o n s b e => x5 c' hc' (fun e' => by cases e; exact d1 e')
  replace r2 := r2.frame u5 fun c' hc' o n s b e => x5 c' hc' (fun e' => by cases e; exact d2 e')
  have he4 := he.keep x4.1 x4.2
  have he5 : Jk h5 := ⟨by rw [f5.2 _ (by have := he4.2.2; rw [Ei]; omega) (fun e => by have := congrArg P.nat e; rw [Ei] at this; omega)]; exact he4.1, by rw [f5.2 _ (by have := he4.2.2; rw [Ei]; omega) (fun e => by have := congrArg P.nat e; rw [Ei] at this; omega)]; exact he4.2.1, Nat.le_trans he4.2.2 f5.1⟩
  have n67 : p67.nat < h5.next.nat := by omega
  refine Bap ?_
  unfold Ald
  refine Bp (s := [40]) (t := wrN a false) (by simp; omega) ?_
  rw [Be]
  refine r1.str (i := r) hr ?_
  rw [Di]
  refine Bp (s := [40] ++ wrN a false) (t := opsL[r]'hr) (by simp; omega) ?_
  refine Bp (s := ([40] ++ wrN a false) ++ opsL[r]'hr) (t := wrN b false) (by simp; omega) ?_
  refine Bp (s := (([40] ++ wrN a false) ++ opsL[r]'hr) ++ wrN b false) (t := [41]) (by simp; omega) ?_
  rw [Be]
  refine r1.str (i := q) hq ?_
  rw [Di]
  refine Bp (s := ((([40] ++ wrN a false) ++ opsL[r]'hr) ++ wrN b false) ++ [41]) (t := opsL[q]'hq) (by simp; omega) ?_
  refine Bp (s := (((([40] ++ wrN a false) ++ opsL[r]'hr) ++ wrN b false) ++ [41]) ++ opsL[q]'hq) (t := wrN c false) (by simp; omega) ?_
  rw [Be]
  refine r2.Bav (i := r) (by rw [List.length_map]; exact hr) ?_
  rw [List.getElem_map, Ar, Be]
  refine r2.Bav (i := q) (by rw [List.length_map]; exact hq) ?_
  rw [List.getElem_map, Ar, ilt]
  refine Bk (fun e => ?_) (fun e => ?_)
  · have e := of_decide_eq_true e
    rw [Be]
    refine r1.str (i := r) hr ?_
    rw [Di]
    refine Bp (s := wrN a false) (t := opsL[r]'hr) (by omega) ?_
    refine Bp (s := wrN a false ++ opsL[r]'hr) (t := [40]) (by simp; omega) ?_
    refine Bp (s := (wrN a false ++ opsL[r]'hr) ++ [40]) (t := wrN b false) (by simp; omega) ?_
    rw [Be]
    refine r1.str (i := q) hq ?_
    rw [Di]
    refine Bp (s := ((wrN a false ++ opsL[r]'hr) ++ [40]) ++ wrN b false) (t := opsL[q]'hq) (by simp; omega) ?_
    refine Bp (s := (((wrN a false ++ opsL[r]'hr) ++ [40]) ++ wrN b false) ++ opsL[q]'hq) (t := wrN c false) (by simp; omega) ?_
    refine Bp (s := ((((wrN a false ++ opsL[r]'hr) ++ [40]) ++ wrN b false) ++ opsL[q]'hq) ++ wrN c false) (t := [41]) (by simp; omega) ?_
    refine Ayk (s := tb3 a b c (opsL[r]'hr) (opsL[q]'hq)) he5 c5 n67 (by unfold tb3; simp) (by unfold tb3; simp; omega) (Bf2 a b c hX hY) (Bgd a b c hX hY) (Ho (Cu (Pt hX) (Cu (by decide) (Ho (Cu (Pt hY) (Ho (by decide))))))) ?_
    rw [← A39 ha hb hc (by rw [lvx]; omega) (by rw [lvy]; omega) (by rw [lvx, lvy]; omega)]
    exact ho
  · have e := of_decide_eq_false e
    refine Ayk (s := tb2 a b c (opsL[r]'hr) (opsL[q]'hq)) he5 c5 n67 (by unfold tb2; simp) (by unfold tb2; simp; omega) (Bf3 a b c hX hY) (Bge a b c hX hY) ?_ ?_
    · rw [List.cons_append, List.append_assoc, List.cons_append, List.append_assoc]
      exact Cu (by decide) (Ho (Cu (Pt hX) (Ho (Cu (by decide) (Cu (Pt hY) (Nf _ _))))))
    rw [← A4a ha hb hc (by rw [lvx]; omega) (by rw [lvy]; omega) (by rw [lvx, lvy]; omega)]
    exact ho
end Go.Den
