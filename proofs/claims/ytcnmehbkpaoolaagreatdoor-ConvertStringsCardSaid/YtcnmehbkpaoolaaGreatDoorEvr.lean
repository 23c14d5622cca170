/-
 Part of the proof.
-/
import Derived.Test.YtcnmehbkpaoolaaGreatDoorPrem
import Derived.Test.YtcnmehbkpaoolaaGreatDoorToks
namespace Go.Den
open Go.RowKit
set_option maxRecDepth 100000
abbrev Amf := Go.Pre.Tok
def tk (x : Dz) : Amf := (x.kind.toNat, x.text)
end Go.Den
