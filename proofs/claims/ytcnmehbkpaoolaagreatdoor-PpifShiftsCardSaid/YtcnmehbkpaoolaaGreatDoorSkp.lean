/-
  A part of the proof.
-/
import Derived.Test.YtcnmehbkpaoolaaGreatDoorL10
import Derived.Test.YtcnmehbkpaoolaaGreatDoorEvt
import Derived.Test.YtcnmehbkpaoolaaGreatDoorAwl
namespace Go.Den
open Go.RowKit
open Go.Pre (V Ir vz Ew Kg Jo Jm Hx)
set_option maxRecDepth 100000
abbrev kT : KV := fun v _ => v = .bool true
theorem Ln {h : H} (he : Jk h) {k : KV} (hk : k (.bool true) h) : W1 (.func 25) [] h k := Aa5 c25 rfl rfl he hk
theorem Zo (a b : Bool) : Hi env .eql 4 (.bool a) (.bool b) = some (.bool (decide (a = b))) := by
  cases a <;> cases b <;> kernel_rfl
theorem A2g : Kb (2, [48]) = some (0#64, false) := by
  unfold Kb
  rw [if_pos rfl]
  show (Pe [48]).map _ = _
  have : Pe [48] = some (0, false) := by decide
  rw [this]; rfl
theorem A2f : Kb (2, [49]) = some (1#64, false) := by
  unfold Kb
  rw [if_pos rfl]
  show (Pe [49]).map _ = _
  have : Pe [49] = some (1, false) := by decide
  rw [this]; rfl
theorem lx0 : Lxs [48] [(2, [48])] := Lxs.num (x := 48) (X := []) .nil (by decide) (by simp) trivial
theorem Jw {h : H} {s : List UInt8} {K : P → Bool → H → Prop} (he : Jk h) (hs0 : s ≠ []) (hl : s.length ≤ 900000) (hs : ∀ x ∈ s, x ≠ 10) (hq : Go.Lx.Hu s = true) {ts : List Cb} (hx : Lxs s ts) (htx : ∀ t ∈ ts, okT t) {o : Option V} (ho : Hg ts = o)
    (hk : ∀ h' p, Exh h h' → h.next.nat ≤ p.nat → p.nat < h'.next.nat → Cel h' p 55 (vC (o.getD (0#64, false))) → K p o.isSome h') :
    W1 (.func 29) [S s] h fun v19 h20 => W1 (.func 26) [v19] h20 fun v21 h22 => ext 0 v21 fun v23 => ext 1 v21 fun v24 => asB v24 fun b25 => Hp.Dm h22 Dd fun p26 h27 => stn 2 (.ptr p26 0) v23 h27 fun h28 => K p26 b25 h28 := by
  refine Amj he hs0 hl hs hq hx htx fun h' x => ?_
  rw [ho]
  unfold Aqg
  rw [Ic, Ib, Ay]
  refine Dk (Kk fun h2 x2 n2 c2 => ?_)
  exact hk h2 h'.next (x.trans x2) x.1 n2 c2
theorem Ake {n : Int} {un : Bool} (h1 : -9223372036854775808 ≤ n) (h2 : n ≤ 9223372036854775807) : vz (nV n un) = decide (n = 0) := by
  unfold vz nV
  refine decide_eq_decide.2 ⟨fun e => ?_, fun e => by rw [e]; rfl⟩
  have e := congrArg BitVec.toInt e
  simp only [BitVec.toInt_ofInt] at e
  rw [Int.bmod_eq_of_le (by omega) (by omega)] at e
  exact e
section
variable {a b : Int} (ha : 0 ≤ a ∧ a ≤ 1000) (hb : 0 ≤ b ∧ b ≤ 1000)
def sk1 (a b : Int) : List UInt8 := ((wrN a false ++ [32, 38, 38, 32]) ++ wrN b false) ++ [32, 47, 32, 48]
def sk2 (a : Int) : List UInt8 := wrN a false ++ [32, 124, 124, 32, 49, 32, 37, 32, 48]
def sk3 (a b : Int) : List UInt8 := ((wrN a false ++ [32, 63, 32]) ++ wrN b false) ++ [32, 58, 32, 49, 32, 47, 32, 48]
def sk4 (a : Int) : List UInt8 := wrN a false ++ [32, 63, 32, 49, 32, 47, 32, 48, 32, 58, 32, 49, 32, 37, 32, 48]
theorem Ai2 {o : List UInt8} (ho : o ∈ opsL) : Lxs (49 :: 32 :: (o ++ [32, 48])) [(2, [49]), (5, o), (2, [48])] :=
  Lxs.d1 (x := 49) (Lxs.blank ((Lxs.blank lx0).op ho (by decide))) (by decide)
theorem Agv {r : List UInt8} {ts : List Cb} (h : Lxs r ts) : Lxs (58 :: 32 :: r) ((5, [58]) :: ts) := (Lxs.blank h).tok (x := 58) (w := []) (by decide) (by decide) rfl rfl
theorem Bgo (a b : Int) : Lxs (sk1 a b) (nK a false ++ Go.Pre.P [38, 38] :: (nK b false ++ Go.Pre.P [47] :: [(2, [48])])) := by
  have e : sk1 a b = wrN a false ++ 32 :: ([38, 38] ++ 32 :: (wrN b false ++ 32 :: ([47] ++ 32 :: [48]))) := by unfold sk1; simp
  rw [e]
  exact Lxs.Ann (.blank (.op (.blank (Lxs.Ann (.blank (.op (.blank lx0) (by decide) (by decide))))) (by decide) (by decide)))
theorem Bgn (a : Int) : Lxs (sk2 a) (nK a false ++ Go.Pre.P [124, 124] :: ([(2, [49])] ++ Go.Pre.P [37] :: [(2, [48])])) := by
  have e : sk2 a = wrN a false ++ 32 :: ([124, 124] ++ 32 :: (49 :: 32 :: ([37] ++ [32, 48]))) := by unfold sk2; simp
  rw [e]
  exact Lxs.Ann (.blank (.op (.blank (Ai2 (o := [37]) (by decide))) (by decide) (by decide)))
theorem Bgm (a b : Int) : Lxs (sk3 a b) (nK a false ++ Go.Pre.P [63] :: (nK b false ++ Go.Pre.P [58] :: ([(2, [49])] ++ Go.Pre.P [47] :: [(2, [48])]))) := by
  have e : sk3 a b = wrN a false ++ 32 :: (63 :: 32 :: (wrN b false ++ 32 :: (58 :: 32 :: (49 :: 32 :: ([47] ++ [32, 48]))))) := by unfold sk3; simp
  rw [e]
  exact Lxs.Ann (.blank (.op1 (.blank (Lxs.Ann (.blank (Agv (Ai2 (o := [47]) (by decide)))))) (by decide)))
theorem Bgl (a : Int) : Lxs (sk4 a) (nK a false ++ Go.Pre.P [63] :: (([(2, [49])] ++ Go.Pre.P [47] :: [(2, [48])]) ++ Go.Pre.P [58] :: ([(2, [49])] ++ Go.Pre.P [37] :: [(2, [48])]))) := by
  have e : sk4 a = wrN a false ++ 32 :: (63 :: 32 :: (49 :: 32 :: ([47] ++ 32 :: (48 :: 32 :: (58 :: 32 :: (49 :: 32 :: ([37] ++ [32, 48]))))))) := by unfold sk4; simp
  rw [e]
  refine Lxs.Ann (.blank (.op1 (.blank ?_) (by decide)))
  exact Lxs.d1 (x := 49) (Lxs.blank (Lxs.op (Lxs.blank (Lxs.d1 (x := 48) (.blank (Agv (Ai2 (o := [37]) (by decide)))) (by decide))) (by decide) (by decide))) (by decide)
theorem od0 : Odn 0 [(2, [48])] (fun _ => some (0#64, false)) := Odn.lit A2g
theorem od1 : Odn 0 [(2, [49])] (fun _ => some (1#64, false)) := Odn.lit A2f
include ha
theorem ek2 : Hg (nK a false ++ Go.Pre.P [124, 124] :: ([(2, [49])] ++ Go.Pre.P [37] :: [(2, [48])])) = if a = 0 then none else some (1#64, false) := by
  rw [A38 (Odn.nK (by omega) (by omega)) od1 od0 (by decide) (by decide) (by unfold nK; simp) (Nat.zero_le _)]
  have hz := Ake (n := a) (un := false) (by omega) (by omega)
  by_cases e : a = 0
  · rw [decide_eq_true e] at hz
    rw [if_pos e]
    simp [f2, ndT, twT, Go.Pre.need, Go.Pre.two, Hx, hz, Go.Pre.P]
  · rw [decide_eq_false e] at hz
    rw [if_neg e]
    simp [f2, ndT, twT, Go.Pre.need, Go.Pre.two, Hx, hz, Go.Pre.P, Ir]
theorem ek4 : Hg (nK a false ++ Go.Pre.P [63] :: (([(2, [49])] ++ Go.Pre.P [47] :: [(2, [48])]) ++ Go.Pre.P [58] :: ([(2, [49])] ++ Go.Pre.P [37] :: [(2, [48])]))) = none := by
  have hq : ∀ (o : List UInt8), lvT (Go.Pre.P o) = 10 → ∀ n d N r, 3 ≤ N → (∀ l, Go.Pre.stops Go.Pre.lvl l r = true) → evP (cdP n) N 1 d (([(2, [49])] ++ Go.Pre.P o :: [(2, [48])]) ++ r) = (f2 (Go.Pre.P o) (fun _ => some (1#64, false)) (fun _ => some (0#64, false)) d).map fun v => (v, r) := fun o ho n d N r hN hr => by
    rw [List.append_assoc, List.cons_append]
    exact bd2 (od1 n (Nat.zero_le _)) (od0 n (Nat.zero_le _)) (by rw [ho]; decide) hN (by rw [ho]; decide) fun m _ => hr m
  rw [Ba3 (Odn.nK (by omega) (by omega)) (by unfold nK; simp) (fun n d N r hN hr => hq [47] (by decide) n d N r (by omega) hr) (fun n d N r hN hr => hq [37] (by decide) n d N r (by omega) hr) (by simp) (by simp)]
  cases hz : vz (nV a false) <;> simp [f2, twT, Go.Pre.two, Hx, hz, Go.Pre.P]
include hb
theorem ek1 : Hg (nK a false ++ Go.Pre.P [38, 38] :: (nK b false ++ Go.Pre.P [47] :: [(2, [48])])) = if a = 0 then some (0#64, false) else none := by
  rw [A38 (Odn.nK (by omega) (by omega)) (Odn.nK (by omega) (by omega)) od0 (by decide) (by decide) (by unfold nK; simp) (Nat.zero_le _)]
  have hz := Ake (n := a) (un := false) (by omega) (by omega)
  by_cases e : a = 0
  · rw [decide_eq_true e] at hz
    rw [if_pos e]
    simp [f2, ndT, twT, Go.Pre.need, Go.Pre.two, Hx, hz, Go.Pre.P, Ir]
  · rw [decide_eq_false e] at hz
    rw [if_neg e]
    simp [f2, ndT, twT, Go.Pre.need, Go.Pre.two, Hx, hz, Go.Pre.P]
theorem ek3 : Hg (nK a false ++ Go.Pre.P [63] :: (nK b false ++ Go.Pre.P [58] :: ([(2, [49])] ++ Go.Pre.P [47] :: [(2, [48])]))) = if a = 0 then none else some (BitVec.ofInt 64 b, false) := by
  have hq : ∀ n d N r, 3 ≤ N → (∀ l, Go.Pre.stops Go.Pre.lvl l r = true) → evP (cdP n) N 1 d (([(2, [49])] ++ Go.Pre.P [47] :: [(2, [48])]) ++ r) = (f2 (Go.Pre.P [47]) (fun _ => some (1#64, false)) (fun _ => some (0#64, false)) d).map fun v => (v, r) := fun n d N r hN hr => by
    rw [List.append_assoc, List.cons_append]
    exact bd2 (od1 n (Nat.zero_le _)) (od0 n (Nat.zero_le _)) (by decide) hN (by decide) fun m _ => hr m
  rw [Ba3 (Odn.nK (by omega) (by omega)) (by unfold nK; simp) (fun n d N r hN hr => bd1 (Od.nK (by omega) (by omega)) (by omega) (hr _)) hq (by unfold nK; simp) (by simp)]
  have hz := Ake (n := a) (un := false) (by omega) (by omega)
  by_cases e : a = 0
  · rw [decide_eq_true e] at hz
    rw [if_pos e]
    simp [f2, twT, Go.Pre.two, Hx, hz, Go.Pre.P]
  · rw [decide_eq_false e] at hz
    rw [if_neg e]
    have hz' : vz (BitVec.ofInt 64 a, false) = false := hz
    simp [f2, twT, Go.Pre.two, Hx, hz', Go.Pre.P, Ew, nV]
end
theorem Yn : ∀ {X Y : List UInt8}, (∀ x ∈ X, x ≠ 63) → (∀ x ∈ Y, x ≠ 63) → Go.Lx.Hu (X ++ 63 :: Y) = true
  | [], [], _, _ => rfl
  | [], y :: Y, _, h => by
    show (!(63 == 63 && y == 63) && Go.Lx.Hu (y :: Y)) = true
    rw [Ad5 h, Bool.and_true, show (y == 63) = false from beq_eq_false_iff_ne.2 (h y (by simp))]; rfl
  | [x], Y, h, h' => by
    show (!(x == 63 && 63 == 63) && Go.Lx.Hu ([] ++ 63 :: Y)) = true
    rw [Yn (X := []) (fun _ hx => absurd hx (by simp)) h', Bool.and_true, show (x == 63) = false from beq_eq_false_iff_ne.2 (h x (by simp))]; rfl
  | x :: y :: X, Y, h, h' => by
    show (!(x == 63 && y == 63) && Go.Lx.Hu ((y :: X) ++ 63 :: Y)) = true
    rw [Yn (X := y :: X) (fun z hz => h z (by simp only [List.mem_cons] at hz ⊢; exact .inr hz)) h', Bool.and_true, show (x == 63) = false from beq_eq_false_iff_ne.2 (h x (by simp))]; rfl
def okS (s : List UInt8) : Prop := ∀ x ∈ s, x ≠ 10 ∧ x ≠ 63
theorem okS.app {X Y : List UInt8} (h1 : okS X) (h2 : okS Y) : okS (X ++ Y) := fun x hx => by
  rcases List.mem_append.1 hx with hx | hx
  · exact h1 x hx
  · exact h2 x hx
theorem okS.lit {Y : List UInt8} (h : Y.all (fun x => x != 10 && x != 63) = true) : okS Y := fun x hx => by
  have := List.all_eq_true.1 h x hx
  simpa using this
theorem okS.q {s : List UInt8} (h : okS s) : (∀ x ∈ s, x ≠ 10) ∧ Go.Lx.Hu s = true := ⟨fun x hx => (h x hx).1, Ad5 fun x hx => (h x hx).2⟩
theorem okS.mid {X Y : List UInt8} (h1 : okS X) (h2 : okS Y) : (∀ x ∈ X ++ 63 :: Y, x ≠ 10) ∧ Go.Lx.Hu (X ++ 63 :: Y) = true := ⟨fun x hx => by
  simp only [List.mem_append, List.mem_cons] at hx
  rcases hx with hx | rfl | hx
  · exact (h1 x hx).1
  · decide
  · exact (h2 x hx).1, Yn (fun x hx => (h1 x hx).2) fun x hx => (h2 x hx).2⟩
theorem okN (n : Int) (un : Bool) : okS (wrN n un) := (Lq n un).1
theorem qk1 (a b : Int) : (∀ x ∈ sk1 a b, x ≠ 10) ∧ Go.Lx.Hu (sk1 a b) = true := (((okN a false).app (.lit (by decide))).app (okN b false) |>.app (.lit (by decide))).q
theorem qk2 (a : Int) : (∀ x ∈ sk2 a, x ≠ 10) ∧ Go.Lx.Hu (sk2 a) = true := ((okN a false).app (.lit (by decide))).q
theorem qk3 (a b : Int) : (∀ x ∈ sk3 a b, x ≠ 10) ∧ Go.Lx.Hu (sk3 a b) = true := by
  have e : sk3 a b = (wrN a false ++ [32]) ++ 63 :: ([32] ++ (wrN b false ++ [32, 58, 32, 49, 32, 47, 32, 48])) := by unfold sk3; simp
  rw [e]
  exact ((okN a false).app (.lit (by decide))).mid (okS.app (.lit (by decide)) ((okN b false).app (.lit (by decide))))
theorem qk4 (a : Int) : (∀ x ∈ sk4 a, x ≠ 10) ∧ Go.Lx.Hu (sk4 a) = true := by
  have e : sk4 a = (wrN a false ++ [32]) ++ 63 :: [32, 49, 32, 47, 32, 48, 32, 58, 32, 49, 32, 37, 32, 48] := by unfold sk4; simp
  rw [e]
  exact ((okN a false).app (.lit (by decide))).mid (.lit (by decide))
theorem Afg {X Y : List UInt8} (h : Y ≠ []) : X ++ Y ≠ [] := by simp [h]
theorem Ho {n : Int} {un : Bool} {ts : List Cb} (h : ∀ t ∈ ts, okT t) : ∀ t ∈ nK n un ++ ts, okT t := fun t ht => by
  rcases List.mem_append.1 ht with ht | ht
  · exact Nf n un t ht
  · exact h t ht
theorem Cu {t : Cb} {ts : List Cb} (h1 : okT t) (h : ∀ t ∈ ts, okT t) : ∀ u ∈ t :: ts, okT u := fun u hu => by
  rcases List.mem_cons.1 hu with rfl | hu
  · exact h1
  · exact h u hu
theorem Ec {a : Bool} {R : (Bool → H → Prop) → Prop} {h : H} {k : Bool → H → Prop} (ha : a = true) (hr : R k) : Al (fun k1 => gate true a (R k1) (k1 false h)) k := Lp (fun _ => hr) (fun e => by rw [ha] at e; cases e)
theorem c10 (a b : Int) : SW PP G (.func 10) [.int .i64 a, .int .i64 b] h1 kT := by
  refine w10 (n := 2) Ca (g10 ?_)
  unfold Alh
  refine Fk ?_
  refine Fk ?_
  refine Fk ?_
  refine Bk (fun _ => ?_) (fun e => ?_)
  · refine Ln No ?_
    rw [Ay]
  simp only [Bool.or_eq_false_iff, Gd, decide_eq_false_iff_not, show Int.ofNat 0 = 0 from rfl, show Int.ofNat 1000 = 1000 from rfl] at e
  have ha : 0 ≤ a ∧ a ≤ 1000 := by omega
  have hb : 0 ≤ b ∧ b ≤ 1000 := by omega
  clear e
  refine Ek (c28 a false) ?_
  rw [Di]
  refine Ek (c28 b false) ?_
  rw [Di]
  have lA := (Lq a false).2
  have lB := (Lq b false).2
  refine Bp (s := wrN a false) (t := [32, 38, 38, 32]) (by simp; omega) ?_
  refine Bp (s := wrN a false ++ [32, 38, 38, 32]) (t := wrN b false) (by simp; omega) ?_
  refine Bp (s := (wrN a false ++ [32, 38, 38, 32]) ++ wrN b false) (t := [32, 47, 32, 48]) (by simp; omega) ?_
  have he := No
  generalize h1 = h at he
  refine Jw (s := sk1 a b) he (Afg (by simp)) (by unfold sk1; simp; omega) (qk1 a b).1 (qk1 a b).2 (Bgo a b) (Ho (Cu (by decide) (Ho (by decide)))) (ek1 ha hb) fun h1 p1 x1 l1 u1 c1 => ?_
  replace he := he.keep x1.1 x1.2
  refine Bp (s := wrN a false) (t := [32, 124, 124, 32, 49, 32, 37, 32, 48]) (by simp; omega) ?_
  refine Jw (s := sk2 a) he (Afg (by simp)) (by unfold sk2; simp; omega) (qk2 a).1 (qk2 a).2 (Bgn a) (Ho (by decide)) (ek2 ha) fun h2 p2 x2 l2 u2 c2 => ?_
  replace he := he.keep x2.1 x2.2
  replace c1 := c1.ext x2 u1
  refine Bp (s := wrN a false) (t := [32, 63, 32]) (by simp; omega) ?_
  refine Bp (s := wrN a false ++ [32, 63, 32]) (t := wrN b false) (by simp; omega) ?_
  refine Bp (s := (wrN a false ++ [32, 63, 32]) ++ wrN b false) (t := [32, 58, 32, 49, 32, 47, 32, 48]) (by simp; omega) ?_
  refine Jw (s := sk3 a b) he (Afg (by simp)) (by unfold sk3; simp; omega) (qk3 a b).1 (qk3 a b).2 (Bgm a b) (Ho (Cu (by decide) (Ho (by decide)))) (ek3 ha hb) fun h3 p3 x3 l3 u3 c3 => ?_
  replace he := he.keep x3.1 x3.2
  replace c1 := c1.ext x3 (by have := x2.1; omega)
  replace c2 := c2.ext x3 u2
  refine Bp (s := wrN a false) (t := [32, 63, 32, 49, 32, 47, 32, 48, 32, 58, 32, 49, 32, 37, 32, 48]) (by simp; omega) ?_
  refine Jw (s := sk4 a) he (Afg (by simp)) (by unfold sk4; simp; omega) (qk4 a).1 (qk4 a).2 (Bgl a) (Ho (by decide)) (ek4 ha) fun h4 p4 x4 l4 u4 c4 => ?_
  replace he := he.keep x4.1 x4.2
  replace c1 := c1.ext x4 (by have := x2.1; have := x3.1; omega)
  replace c2 := c2.ext x4 (by have := x3.1; omega)
  replace c3 := c3.ext x4 u3
  refine Bar ?_
  unfold Alg
  rw [show Av a (Int.ofNat 0) = decide (a = 0) from Ag8 a 0]
  have lv : ∀ {p : P} {v : V} {K : Int → Prop}, Cel h4 p 55 (vC v) → K (Int.ofNat v.1.toNat) → Ao 0 (.ptr p 0) fun v82 => Go.Den.ld1 v82 h4 fun v83 => asI .u64 v83 K := fun {p v K} c hK => by
    rw [Aj]
    refine c.atp.ld1 (j := 0) (by simp) ?_
    show asI .u64 (uI v.1) _
    rw [Ar]; exact hK
  by_cases e : a = 0
  · rw [if_pos e] at c1 c2 c3 ⊢
    rw [decide_eq_true e, Zo, Db, Ay]
    refine Ec rfl (lv c1 ?_)
    refine Ec (by rw [bv0]; rfl) ?_
    rw [if_pos e, Zo, Db, Ay]
    refine Ec rfl (lv c2 ?_)
    rw [Zo, Db, Ay]
    refine Ec (by decide) ?_
    rw [if_pos e, Zo, Db, Ay]
    refine Ec (by decide) ?_
    refine Wa (fun e => nomatch e) (fun _ => ?_)
    refine Ec rfl ?_
    refine Ec rfl ?_
    refine Ln he ?_
    rw [Ay]
  · rw [if_neg e] at c1 c2 c3 ⊢
    rw [decide_eq_false e, Zo, Db, Ay]
    refine Ec rfl (lv c1 ?_)
    refine Ec (by rw [bv0]; rfl) ?_
    rw [if_neg e, Zo, Db, Ay]
    refine Ec rfl (lv c2 ?_)
    rw [Zo, Db, Ay]
    refine Ec (by decide) ?_
    rw [if_neg e, Zo, Db, Ay]
    refine Ec (decide_eq_true rfl) ?_
    refine Wa (fun _ => lv c3 ?_) (fun e => nomatch e)
    rw [wOf, As]
    refine Ec (by rw [Axd]; exact decide_eq_true rfl) ?_
    refine Ec rfl ?_
    refine Ln he ?_
    rw [Ay]
end Go.Den
