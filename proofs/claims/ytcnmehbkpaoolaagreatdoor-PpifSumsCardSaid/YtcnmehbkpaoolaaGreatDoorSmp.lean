/-
  A part of the proof.
-/
import Derived.Test.YtcnmehbkpaoolaaGreatDoorL9
import Derived.Test.YtcnmehbkpaoolaaGreatDoorOpp
noncomputable section
namespace Go.Den
open Go.RowKit
open Go.Pre (V Ir vz Ew Kg Jo Jm Hx Ae0 Oi)
set_option maxRecDepth 100000
def Js : List (List UInt8) := [[43], [45], [42], [38], [124], [94], [61, 61], [33, 61], [60], [62], [60, 61], [62, 61]]
def Axn : Tm := Option.rec .e (fun t => t) (Gw (Ft 1) 12 [(0, (.str 1 43)), (1, (.str 1 45)), (2, (.str 1 42)), (3, (.str 1 38)), (4, (.str 1 124)), (5, (.str 1 94)), (6, (.str 2 15677)), (7, (.str 2 15649)), (8, (.str 1 60)), (9, (.str 1 62)), (10, (.str 2 15676)), (11, (.str 2 15678))] (Aq (Gf [.str 0 0] 12) 0 .e))
theorem Bji (h : H) : Ak env 44 (fun e ei => Ae 12 [(0, (.str 1 43)), (1, (.str 1 45)), (2, (.str 1 42)), (3, (.str 1 38)), (4, (.str 1 124)), (5, (.str 1 94)), (6, (.str 2 15677)), (7, (.str 2 15649)), (8, (.str 1 60)), (9, (.str 1 62)), (10, (.str 2 15676)), (11, (.str 2 15678))] h e ei) = some (.slice h.next 0 12 1 true, h.new (.row Axn 12 0 9 true)) := by kernel_rfl
theorem Bi7 : Bf Axn 12 0 = Js.map fun s => S s := by kernel_rfl
theorem A2h : ∀ o ∈ Js, o ∈ opsL := by decide
def Afx (r : Nat) (x y : BitVec 64) (un : Bool) : BitVec 64 := match r with
  | 0 => x + y
  | 1 => x - y
  | 2 => x * y
  | 3 => x &&& y
  | 4 => x ||| y
  | 5 => x ^^^ y
  | n => (Ir (Ae0 (Js.getD n []) x y un)).1
theorem Au2 (x y : BitVec 64) (un : Bool) (r : Nat) (hr : r < 12) : Go.Pre.two (Go.Pre.P (Js[r]'hr)) (x, false) (y, un) true = some (Afx r x y un, un && !decide (6 ≤ r)) := by
  match r, hr with
  | 0, _ | 1, _ | 2, _ | 3, _ | 4, _ | 5, _ | 6, _ | 7, _ | 8, _ | 9, _ | 10, _ | 11, _ => cases un <;> rfl
theorem Aqz : ∀ r : Fin 12, lvT (Go.Pre.P (Js[r.1]'r.2)) ≠ 0 ∧ (Js[r.1]'r.2) ≠ [124, 124] ∧ (Js[r.1]'r.2) ≠ [38, 38] := by decide
section
variable (a b : Int) (un : Bool) {o : List UInt8} (ho : o ∈ opsL)
def tm1 (a b : Int) (un : Bool) (o : List UInt8) : List UInt8 := (((wrN a false ++ [32]) ++ o) ++ [32]) ++ wrN b un
def tm2 (a b : Int) (un : Bool) (o : List UInt8) : List UInt8 := ((((([40, 40] ++ wrN a false) ++ [41]) ++ o) ++ [40]) ++ wrN b un) ++ [41, 41]
include ho
theorem Bgc : Lxs (tm1 a b un o) (nK a false ++ Go.Pre.P o :: nK b un) := by
  have e : tm1 a b un o = wrN a false ++ 32 :: (o ++ 32 :: wrN b un) := by unfold tm1; simp
  rw [e]
  exact Lxs.nK (.blank (.op (.blank (.nK0 b un)) ho (by decide))) (Ud _)
theorem Bgb : Lxs (tm2 a b un o) (Go.Pre.P [40] :: ((Go.Pre.P [40] :: (nK a false ++ [Go.Pre.P [41]])) ++ Go.Pre.P o :: ((Go.Pre.P [40] :: (nK b un ++ [Go.Pre.P [41]])) ++ [Go.Pre.P [41]]))) := by
  have e : tm2 a b un o = 40 :: (40 :: (wrN a false ++ 41 :: (o ++ 40 :: (wrN b un ++ 41 :: (41 :: []))))) := by unfold tm2; simp
  have e2 : (Go.Pre.P [40] :: (nK a false ++ [Go.Pre.P [41]])) ++ Go.Pre.P o :: ((Go.Pre.P [40] :: (nK b un ++ [Go.Pre.P [41]])) ++ [Go.Pre.P [41]]) = Go.Pre.P [40] :: (nK a false ++ Go.Pre.P [41] :: (Go.Pre.P o :: (Go.Pre.P [40] :: (nK b un ++ Go.Pre.P [41] :: [Go.Pre.P [41]])))) := by simp
  rw [e, e2]
  exact Lxs.op1 (Lxs.par (.op (Lxs.par (Lxs.op1 .nil (.inr (.inl rfl)))) ho (by decide))) (.inl rfl)
theorem A87 : (∀ z ∈ tm1 a b un o, z ≠ 10) ∧ Go.Lx.Hu (tm1 a b un o) = true := (((((okN a false).app (.lit (by decide))).app (okO ho).1).app (.lit (by decide))).app (okN b un)).q
theorem A86 : (∀ z ∈ tm2 a b un o, z ≠ 10) ∧ Go.Lx.Hu (tm2 a b un o) = true := (((((((okS.app (.lit (by decide)) (okN a false)).app (.lit (by decide))).app (okO ho).1).app (.lit (by decide))).app (okN b un)).app (.lit (by decide)))).q
end
section
variable {a b : Int} {un : Bool} (ha : -9223372036854775808 ≤ a ∧ a ≤ 9223372036854775807) (hb : -9223372036854775808 ≤ b ∧ b ≤ 9223372036854775807)
include ha hb
omit ha hb in
theorem Ar3 {r : Nat} (hr : r < 12) : f2 (Go.Pre.P (Js[r]'hr)) (fun _ => some (nV a false)) (fun _ => some (nV b un)) true = some (Afx r (BitVec.ofInt 64 a) (BitVec.ofInt 64 b) un, un && !decide (6 ≤ r)) := Au2 _ _ _ _ hr
theorem Bh3 {r : Nat} (hr : r < 12) : Hg (nK a false ++ Go.Pre.P (Js[r]'hr) :: nK b un) = some (Afx r (BitVec.ofInt 64 a) (BitVec.ofInt 64 b) un, un && !decide (6 ≤ r)) := by
  rw [ev2 (Odn.nK ha.1 ha.2) (Odn.nK hb.1 hb.2) (Aqz ⟨r, hr⟩).1 (Ph _ _) (Nat.zero_le _)]
  exact Ar3 hr
theorem Bh2 {r : Nat} (hr : r < 12) : Hg (Go.Pre.P [40] :: ((Go.Pre.P [40] :: (nK a false ++ [Go.Pre.P [41]])) ++ Go.Pre.P (Js[r]'hr) :: ((Go.Pre.P [40] :: (nK b un ++ [Go.Pre.P [41]])) ++ [Go.Pre.P [41]]))) = some (Afx r (BitVec.ofInt 64 a) (BitVec.ofInt 64 b) un, un && !decide (6 ≤ r)) := by
  rw [ev1 (Odn.p2 (Odn.nK ha.1 ha.2).p1 (Odn.nK hb.1 hb.2).p1 (Aqz ⟨r, hr⟩).1 (by simp)) (by simp)]
  exact Ar3 hr
end
section
variable {h : H} {p1 p2 : P} {v1 : AV} {op : Int} {un : Bool} {r : Nat} {x : BitVec 64} (he : Jk h) (c1 : Cel h p1 55 (vC (x, un && !decide (6 ≤ r)))) (c2 : Cel h p2 55 (vC (x, un && !decide (6 ≤ r)))) (r1 : Rd 1 h v1 (es Js)) (hp : Pure PP G h0 23 [.int .i64 op, .int .i64 (Int.ofNat 12)] (.int .i64 (Int.ofNat r)))
include he c1 c2 r1 hp
theorem Bci {n : Nat} : (r9 W1 kT (n + 1)).a1 op un v1 (.ptr p1 0) true (.ptr p2 0) true (Int.ofNat x.toNat) h := by
  refine Bgs ?_
  unfold Avd
  rw [r1.len]
  refine Ek hp ?_
  rw [Ar]
  refine Ec rfl ?_
  refine Ec rfl ?_
  refine c1.atp.ldn rfl ?_
  refine c2.atp.ldn rfl ?_
  show oV (Hi env .eql 55 (vI (x, un && !decide (6 ≤ r))) (vI (x, un && !decide (6 ≤ r)))) _
  rw [Anz, Db, Ay]
  refine Ec rfl ?_
  rw [Aj]
  refine c1.atp.ld1 (j := 0) (by simp) ?_
  show asI .u64 (uI x) _
  rw [Ar, Axd]
  refine Ec (decide_eq_true rfl) ?_
  rw [Aj]
  refine c1.atp.ld1 (j := 1) (by simp) ?_
  show asB (.bool (un && !decide (6 ≤ r))) _
  rw [Ay]
  refine Oj ?_
  rw [ile, Bv, Zo, Db, Ay]
  refine Ec (decide_eq_true rfl) ?_
  refine Ln he ?_
  rw [Ay]
theorem Bim {n : Nat} {w : BitVec 64} {truth : Bool} (hw : (if truth then 1#64 else w) = x) : (r9 W1 kT (n + 2)).a2 op un v1 (.ptr p1 0) true (.ptr p2 0) true (Int.ofNat w.toNat) truth h := by
  refine Bgr ?_
  unfold Avc
  refine Bk (fun e => ?_) (fun e => ?_)
  · rw [if_pos e] at hw
    subst hw
    exact Bci he c1 c2 r1 hp
  · rw [if_neg (by rw [e]; simp)] at hw
    subst hw
    exact Bci he c1 c2 r1 hp
end
theorem A6n {a b : Int} (ha : -9223372036854775808 ≤ a ∧ a ≤ 9223372036854775807) (hb : -9223372036854775808 ≤ b ∧ b ≤ 9223372036854775807) : decide (BitVec.ofInt 64 a = BitVec.ofInt 64 b) = decide (a = b) := by
  refine decide_eq_decide.2 ⟨fun e => ?_, fun e => by rw [e]⟩
  have := congrArg BitVec.toInt e
  rw [Ow ha.1 ha.2, Ow hb.1 hb.2] at this
  exact this
theorem Bil {h : H} {p1 p2 : P} {v1 : AV} {op a b : Int} {un : Bool} {r n : Nat} (hr : r < 12) (ha : -9223372036854775808 ≤ a ∧ a ≤ 9223372036854775807) (hb : -9223372036854775808 ≤ b ∧ b ≤ 9223372036854775807) (he : Jk h) (c1 : Cel h p1 55 (vC (Afx r (BitVec.ofInt 64 a) (BitVec.ofInt 64 b) un, un && !decide (6 ≤ r)))) (c2 : Cel h p2 55 (vC (Afx r (BitVec.ofInt 64 a) (BitVec.ofInt 64 b) un, un && !decide (6 ≤ r)))) (r1 : Rd 1 h v1 (es Js)) (hp : Pure PP G h0 23 [.int .i64 op, .int .i64 (Int.ofNat 12)] (.int .i64 (Int.ofNat r))) :
    (r9 W1 kT (n + 3)).a3 a b op un v1 (Js[r]'hr).length (enc (Js[r]'hr)) (.ptr p1 0) true (.ptr p2 0) true (Int.ofNat (BitVec.ofInt 64 a).toNat) (Int.ofNat (BitVec.ofInt 64 b).toNat) (Oi (BitVec.ofInt 64 a) (BitVec.ofInt 64 b) un) h := by
  have fin : ∀ (w : BitVec 64) (truth : Bool), (if truth then 1#64 else w) = Afx r (BitVec.ofInt 64 a) (BitVec.ofInt 64 b) un → (r9 W1 kT (n + 2)).a2 op un v1 (.ptr p1 0) true (.ptr p2 0) true (Int.ofNat w.toNat) truth h := fun w truth hw => Bim he c1 c2 r1 hp hw
  have fin0 : ∀ (truth : Bool), (if truth then 1#64 else 0#64) = Afx r (BitVec.ofInt 64 a) (BitVec.ofInt 64 b) un → (r9 W1 kT (n + 2)).a2 op un v1 (.ptr p1 0) true (.ptr p2 0) true (Int.ofNat 0) truth h := fun truth hw => fin 0#64 truth hw
  have hab := A6n ha hb
  have hi : Av a b = decide (a = b) := by rw [Ez]; rfl
  refine Bgq ?_
  unfold Avb
  generalize hol : Js[r]'hr = o
  rw [Ci (s := o) (t := [43]) (l := 1) (c := 43) rfl rfl, Ci (s := o) (t := [45]) (l := 1) (c := 45) rfl rfl, Ci (s := o) (t := [42]) (l := 1) (c := 42) rfl rfl, Ci (s := o) (t := [38]) (l := 1) (c := 38) rfl rfl, Ci (s := o) (t := [124]) (l := 1) (c := 124) rfl rfl, Ci (s := o) (t := [94]) (l := 1) (c := 94) rfl rfl, Ci (s := o) (t := [61, 61]) (l := 2) (c := 15677) rfl rfl, Ci (s := o) (t := [33, 61]) (l := 2) (c := 15649) rfl rfl, Ci (s := o) (t := [60]) (l := 1) (c := 60) rfl rfl, Ci (s := o) (t := [62]) (l := 1) (c := 62) rfl rfl, Ci (s := o) (t := [60, 61]) (l := 2) (c := 15676) rfl rfl, Ci (s := o) (t := [62, 61]) (l := 2) (c := 15678) rfl rfl]
  subst hol
  clear c1 c2 hp he
  match r, hr, fin, fin0 with
  | 0, _, fin, _ =>
    refine Bo rfl ?_
    rw [A66, As]; exact fin _ false rfl
  | 1, _, fin, _ =>
    refine Am rfl (Bo rfl ?_)
    rw [Ay1, As]; exact fin _ false rfl
  | 2, _, fin, _ =>
    refine Am rfl (Am rfl (Bo rfl ?_))
    rw [A64, As]; exact fin _ false rfl
  | 3, _, fin, _ =>
    refine Am rfl (Am rfl (Am rfl (Bo rfl ?_)))
    exact Aq7 (fin _ false rfl)
  | 4, _, fin, _ =>
    refine Am rfl (Am rfl (Am rfl (Am rfl (Bo rfl ?_))))
    exact A98 (fin _ false rfl)
  | 5, _, fin, _ =>
    refine Am rfl (Am rfl (Am rfl (Am rfl (Am rfl (Bo rfl ?_)))))
    exact Ax4 (fin _ false rfl)
  | 6, _, _, fin =>
    refine Am rfl (Am rfl (Am rfl (Am rfl (Am rfl (Am rfl (Bo rfl ?_))))))
    rw [hi, ← hab]; exact fin _ rfl
  | 7, _, _, fin =>
    refine Am rfl (Am rfl (Am rfl (Am rfl (Am rfl (Am rfl (Am rfl (Bo rfl ?_)))))))
    rw [hi, ← hab, Bv]; exact fin _ rfl
  | 8, _, _, fin =>
    refine Am rfl (Am rfl (Am rfl (Am rfl (Am rfl (Am rfl (Am rfl (Am rfl (Bo rfl ?_))))))))
    exact fin _ rfl
  | 9, _, _, fin =>
    refine Am rfl (Am rfl (Am rfl (Am rfl (Am rfl (Am rfl (Am rfl (Am rfl (Am rfl (Bo rfl ?_)))))))))
    refine Oj ?_
    rw [hi, ← hab, Bv, Bv]; exact fin _ rfl
  | 10, _, _, fin =>
    refine Am rfl (Am rfl (Am rfl (Am rfl (Am rfl (Am rfl (Am rfl (Am rfl (Am rfl (Am rfl (Bo rfl ?_))))))))))
    refine Fk ?_
    rw [hi, ← hab]; exact fin _ rfl
  | 11, _, _, fin =>
    refine Am rfl (Am rfl (Am rfl (Am rfl (Am rfl (Am rfl (Am rfl (Am rfl (Am rfl (Am rfl (Am rfl (Bo rfl ?_)))))))))))
    rw [Bv]; exact fin _ rfl
theorem c9 (a b op : Int) (un : Bool) (ha : -9223372036854775808 ≤ a ∧ a ≤ 9223372036854775807) (hb : -9223372036854775808 ≤ b ∧ b ≤ 9223372036854775807) : SW PP G (.func 9) [.int .i64 a, .int .i64 b, .int .i64 op, .bool un] h1 kT := by
  refine w9 (n := 6) Ca (g9 ?_)
  unfold Ave
  have he := No
  generalize h1 = h at he
  rw [Bji, Ag, Nh]
  have r1 := Oe (e := 9) Bi7 rfl h
  have x1 : Exh h (h.new (.row Axn 12 0 9 true)) := .new
  generalize h.new (.row Axn 12 0 9 true) = h1 at r1 x1 ⊢
  generalize AV.slice h.next 0 12 1 true = v1 at r1 ⊢
  replace he := he.keep x1.1 x1.2
  obtain ⟨r, hr, hp⟩ := c23 op (m := 12) (by decide) (by decide)
  refine Ek hp ?_
  rw [Ar, Be]
  refine r1.str (i := r) hr ?_
  rw [Di]
  refine Ek (c28 a false) ?_
  rw [Di]
  refine Ek (c28 b un) ?_
  rw [Di]
  have lA := (Lq a false).2
  have lB := (Lq b un).2
  have hO : Js[r]'hr ∈ opsL := A2h _ (List.getElem_mem _)
  have lO := (okO hO).2
  refine Bp (s := wrN a false) (t := [32]) (by simp; omega) ?_
  refine Bp (s := wrN a false ++ [32]) (t := Js[r]'hr) (by simp; omega) ?_
  refine Bp (s := (wrN a false ++ [32]) ++ Js[r]'hr) (t := [32]) (by simp; omega) ?_
  refine Bp (s := ((wrN a false ++ [32]) ++ Js[r]'hr) ++ [32]) (t := wrN b un) (by simp; omega) ?_
  refine Jw (s := tm1 a b un (Js[r]'hr)) he (by unfold tm1; simp) (by unfold tm1; simp; omega) (A87 a b un hO).1 (A87 a b un hO).2 (Bgc a b un hO) (Ho (Cu (Pt hO) (Nf _ _))) (Bh3 ha hb hr) fun h2 p1 x2 l2 u2 c1 => ?_
  replace he := he.keep x2.1 x2.2
  replace r1 := r1.ext x2
  refine Bp (s := [40, 40]) (t := wrN a false) (by simp; omega) ?_
  refine Bp (s := [40, 40] ++ wrN a false) (t := [41]) (by simp; omega) ?_
  refine Bp (s := ([40, 40] ++ wrN a false) ++ [41]) (t := Js[r]'hr) (by simp; omega) ?_
  refine Bp (s := (([40, 40] ++ wrN a false) ++ [41]) ++ Js[r]'hr) (t := [40]) (by simp; omega) ?_
  refine Bp (s := ((([40, 40] ++ wrN a false) ++ [41]) ++ Js[r]'hr) ++ [40]) (t := wrN b un) (by simp; omega) ?_
  refine Bp (s := (((([40, 40] ++ wrN a false) ++ [41]) ++ Js[r]'hr) ++ [40]) ++ wrN b un) (t := [41, 41]) (by simp; omega) ?_
  refine Jw (s := tm2 a b un (Js[r]'hr)) he (by unfold tm2; simp) (by unfold tm2; simp; omega) (A86 a b un hO).1 (A86 a b un hO).2 (Bgb a b un hO) ?_ (Bh2 ha hb hr) fun h3 p2 x3 l3 u3 c2 => ?_
  · simp only [List.cons_append, List.append_assoc, List.nil_append]
    exact Cu (by decide) (Cu (by decide) (Ho (Cu (by decide) (Cu (Pt hO) (Cu (by decide) (Ho (by decide)))))))
  replace he := he.keep x3.1 x3.2
  replace r1 := r1.ext x3
  replace c1 := c1.ext x3 u2
  rw [wOf, As, wOf, As]
  refine Bgp ?_
  unfold Ava
  have key := Bil (n := 1) hr ha hb he c1 c2 r1 hp
  refine Bk (fun e => ?_) (fun e => ?_)
  · subst e
    rw [ilt]
    exact key
  · subst e
    rw [show Cs a b = decide (a < b) by rw [Gd]]
    have : Oi (BitVec.ofInt 64 a) (BitVec.ofInt 64 b) false = decide (a < b) := by
      unfold Oi
      rw [if_neg (by simp), Ow ha.1 ha.2, Ow hb.1 hb.2]
    rw [this] at key
    exact key
end Go.Den
