/-
 Proof.
-/
import Derived.Test.YtheajahjkmfeaaaGreatDoorTob
import Derived.KernelRfl
namespace Go.Den
set_option maxRecDepth 100000
theorem Bbf:Pure PP G h0 4 [] (.bool true):=Asu (m:=5000) (n:=2000) (by kernel_rfl)
theorem awW(h:H)(k:KV)(hk:k (.bool true) h):W1 (.func 4) [] h k:=Lj Bbf hk
end Go.Den
