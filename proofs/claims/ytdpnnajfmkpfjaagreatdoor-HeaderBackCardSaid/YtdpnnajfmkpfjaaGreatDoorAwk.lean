/-
  A part of the proof: what the document fixes.
-/
import Derived.Test.YtdpnnajfmkpfjaaGreatDoorFlts
namespace Go.Den
open Go.RowKit
set_option maxRecDepth 100000
theorem c5 : Pure PP G h0 5 [] (.bool true) := pure_run (by kernel_rfl)
end Go.Den
