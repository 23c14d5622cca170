/-
  A part of the proof: what a run begins with: definitions.
-/
import Derived.Test.YtbjfkibkjjmdnaaGreatDoorRunC
import Derived.Test.YtbjfkibkjjmdnaaGreatDoorDenQ
namespace Go.Den
open Go.RowKit
set_option maxRecDepth 100000
noncomputable abbrev PP : Program := Proofs.Tryz.prog
noncomputable abbrev W1 : Caller Prop FT := SW PP G
noncomputable def obs0 : List (Ob FT) := List.replicate 9 .dead
noncomputable abbrev h0 : H := initH obs0
noncomputable def allB {α : Type} (p : α → Bool) (l : List α) : Bool := List.rec true (fun x _ ih => Bool.rec false ih (p x)) l
/-- one function without arguments is told to answer true -/
noncomputable def callsA (w m : Nat) (n : Nat) : Caller Prop FT := Nat.rec (fun _ _ _ _ => False) (fun _ c fn a h k => Fn.rec
  (fun i => cnd (Nat.beq i w) (List.rec (k (.bool true) h) (fun _ _ _ => False) a) (disp c m i a h k))
  (fun _ => False) (fun _ _ => False) (fun _ _ _ _ => False) (fun l => yieldA env c (okLp PP env G) l a h k) fn) n
/-- as many ways as maps are gone through in -/
noncomputable def conjN (n : Nat) (A : Prop) : Prop := Nat.rec True (fun m ih => Nat.rec A (fun _ _ => And A ih) m) n
noncomputable def shpN (n : Nat) (A : Prop) : Prop := Nat.rec A (fun m ih => conjN (Nat.succ m) ih) n
noncomputable def shp (l : List Nat) : Prop := List.rec True (fun n _ ih => shpN n ih) l
end Go.Den
