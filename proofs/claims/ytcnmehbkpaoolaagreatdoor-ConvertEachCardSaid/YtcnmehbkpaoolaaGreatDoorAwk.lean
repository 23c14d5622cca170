/-
 Proof.
-/
import Derived.Test.YtcnmehbkpaoolaaGreatDoorLaid
namespace Go.Den
set_option maxRecDepth 100000
theorem Aps{F:FuncId}{args:List AV}{r:AV}(h:calls 100000 100000 (.func F) args h1 (fun v _=>v=r)=(r=r)):Pure PP G h1 F args r:=
 Ahc (Kx 100000 100000) (h.mpr rfl)
theorem c15:Pure PP G h1 15 [] (.bool true):=Aps (by kernel_rfl)
end Go.Den
