/-
  A part of the proof: what a closed run says.
-/
import Derived.Test.YtbjfkibkjjmdnaaGreatDoorSod
namespace Go.Den
set_option maxRecDepth 100000
noncomputable abbrev RS (n a : Nat) : Prop := callsT 6 5000 2000 (.func 3) [.int .i64 (Int.ofNat n), .int .i64 (Int.ofNat a)] h0 isT = True
end Go.Den
