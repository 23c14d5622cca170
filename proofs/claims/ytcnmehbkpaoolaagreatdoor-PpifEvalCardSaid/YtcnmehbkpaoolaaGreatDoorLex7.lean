/-
 Proof.
-/
import Derived.Test.YtcnmehbkpaoolaaGreatDoorLex6
namespace Go.Den
open Go.RowKit
set_option maxRecDepth 100000
theorem Aie{a b c:AV}{l:List AV}{K:AV→Prop}:ext 2 (.tuple (a::b::c::l)) K=K c:=rfl
end Go.Den
