/-
  A part of the proof: what the law FrontSelf comes to, its depth left free.
-/
import Derived.Test.YtbjfkibkjjmdnaaGreatDoorPrd
namespace Go.Den
open Go.RowKit
set_option maxRecDepth 100000
/-- a config that may be is told to be one -/
noncomputable def ckT (a : List AV) (h : H) (k : KV) : Prop := match a with
  | [.agg [.nils, .int .i64 n, .int .i64 f]] => And (And (1 ≤ n ∧ n ≤ 100) (0 ≤ f ∧ f ≤ 200000)) (k (.bool true) h)
  | _ => False
/-- a file's path and text -/
structure Fil where
  lp : Nat
  cp : Nat
  lt : Nat
  ct : Nat
  D : List LnD
  st : List AV
noncomputable def filT (A : Fil) (a : List AV) (h : H) (k : KV) (els : Prop) : Prop := match a with
  | [.str l c, .str m d] => cnd (band (strEq l c A.lp A.cp) (strEq m d A.lt A.ct)) (tellP A.D A.st h k) els
  | _ => False
/-- told ahead: the lines of two files; that a config may be; what the document fixes -/
noncomputable def callsF (A B : Fil) (m : Nat) (n : Nat) : Caller Prop FT := Nat.rec (fun _ _ _ _ => False) (fun _ c fn a h k => Fn.rec
  (fun i => cnd (Nat.beq i 29) (ckT a h k) (cnd (Nat.beq i 25) (filT A a h k (filT B a h k False)) (cnd (Nat.beq i 13) (List.rec (k (.bool true) h) (fun _ _ _ => False) a) (disp c m i a h k))))
  (fun _ => False) (fun _ _ => False) (fun _ _ _ _ => False) (fun l => yieldA env c (okLp PP env G) l a h k) fn) n
noncomputable def tkF (F kd l c : Nat) (sp : Bool) (f t : Nat) : List AV := [.int .i64 (.ofNat kd), .str l c, .bool sp, .str 3 F, .int .i64 (.ofNat f), .int .i64 (.ofNat t), .bool false, .nils]
/-- so many lines x, one that includes a file, and a line y -/
noncomputable def lnsF (F O : Nat) (l : Nat) : Nat → List LnD := Nat.rec (motive := fun _ => Nat → List LnD)
  (fun p => [(appL (tkF F 5 1 35 false p (Nat.add p 1)) (appL (tkF F 1 7 28539428140183145 false (Nat.add p 1) (Nat.add p 8)) (tkF F 4 5 O true (Nat.add p 9) (Nat.add p 14))), p, Nat.add p 15), (tkF F 1 1 121 false (Nat.add p 15) (Nat.add p 16), Nat.add p 15, Nat.add p 17)])
  (fun _ ih p => (tkF F 1 1 120 false p (Nat.add p 1), p, Nat.add p 2) :: ih (Nat.add p 2)) l
noncomputable def stsF (l : Nat) : Nat → List AV := Nat.rec (motive := fun _ => Nat → List AV) (fun p => [.int .i64 (.ofNat (Nat.add p 15)), .int .i64 (.ofNat (Nat.add p 17))]) (fun _ ih p => .int .i64 (.ofNat (Nat.add p 2)) :: ih (Nat.add p 2)) l
noncomputable def filF (F O : Nat) (l lt ct : Nat) : Fil := ⟨3, F, lt, ct, lnsF F O l 0, stsF l 0⟩
noncomputable abbrev TT : Prop := isT (.bool true) h0
noncomputable abbrev FF : Prop := isT (.bool false) h0
/-- behind the run: what is held against what it should be; b: whether the file is the one -/
noncomputable def finD (l k : Nat) (b : Bool) (d : Int) : Prop := fI (wrap .i64 (d * Int.ofNat l)) (fun n => Bool.rec FF (isT (.bool b) h0) (ibeq (Int.ofNat (Nat.mul k l)) n))
noncomputable def oddB (k : Nat) : Bool := Nat.beq (Nat.mod k 2) 1
/-- the limit is met at that level -/
noncomputable def tailD (l : Nat) (pair : Bool) (k : Nat) (d : Int) : Prop := Bool.rec (finD l k true d)
  (fI (Int.tmod d (Int.ofNat 2)) (fun n => Bool.rec (finD l k (oddB k) d) (finD l k (bnot (oddB k)) d) (ibeq n (Int.ofNat 0)))) pair
noncomputable def twiceD (l : Nat) (pair : Bool) (k : Nat) (d : Int) : Prop := Bool.rec (tailD l pair k d) (Bool.rec (tailD l pair k d) (And (tailD l pair k d) (tailD l pair k d)) (Nat.ble 2 k)) pair
noncomputable def chainD (l : Nat) (pair : Bool) (d : Int) (j : Nat) : Nat → Prop := Nat.rec (motive := fun _ => Nat → Prop) (fun _ => False) (fun _ ih k => Bool.rec (ih (Nat.succ k)) (twiceD l pair k d) (ible d (Int.ofNat k))) j
noncomputable def cfgD (d : Int) (X : Prop) : Prop := Bool.rec bad0 X (avEq 4 (.agg [.nils, .int .i64 d, .int .i64 (Int.ofNat 5000)]) (.agg [.nils, .int .i64 d, .int .i64 (Int.ofNat 5000)]))
/-- more than b deep, and no more than b + j -/
noncomputable def lawE (l : Nat) (pair : Bool) (d : Int) (b j : Nat) : Prop := And (And (1 ≤ d ∧ d ≤ 100) ((0 : Int) ≤ Int.ofNat 5000 ∧ Int.ofNat 5000 ≤ (200000 : Int))) (cfgD d (cfgD d (cfgD d (cfgD d (chainD l pair d j (Nat.succ b))))))
/-- the law's run at more than b files deep -/
noncomputable abbrev RunF (A B : Fil) (l : Nat) (pair : Bool) (b j n : Nat) : Prop := ∀ e : Nat, callsF A B 5000 n (.func 4) [.int .i64 (Int.ofNat (Nat.add e (Nat.succ b))), .int .i64 (Int.ofNat l), .bool pair] h0 isT =
  Bool.rec (lawE l pair (Int.ofNat (Nat.add e (Nat.succ b))) b j) TT (iblt (Int.ofNat 100) (Int.ofNat (Nat.add e (Nat.succ b))))
/-- a file's lines are that -/
noncomputable abbrev LinesF (A : Fil) : Prop := calls 5000 100 (.func 25) [.str A.lp A.cp, .str A.lt A.ct] h0 (chkP A.D A.st) = True
end Go.Den
