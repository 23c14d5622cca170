/-
 Part of the proof.
-/
import Derived.Test.YtcnmehbkpaoolaaGreatDoorLxd
import Derived.Test.YtcnmehbkpaoolaaGreatDoorToks
import Derived.Test.YtcnmehbkpaoolaaGreatDoorAwk
namespace Go.Den
open Go.RowKit
open Go.Lx (Ry Qp Wg Ov Mb)
set_option maxRecDepth 100000
abbrev kTn : KV := fun v _ => v = .bool true
theorem Yr {h : H} (he : Jz h) {k : KV} (hk : k (.bool true) h) : W1 (.func 15) [] h k := Aci c15 rfl rfl he hk
end Go.Den
