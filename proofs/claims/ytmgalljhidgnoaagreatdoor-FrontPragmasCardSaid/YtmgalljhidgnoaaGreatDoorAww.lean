/-
 Proof.
-/
import Derived.Test.YtmgalljhidgnoaaGreatDoorVls
import Derived.KernelRfl
namespace Go.Den
set_option maxRecDepth 100000
theorem Aft:Pure PP G h0 4 [] (.bool true):=Va (m:=5000) (n:=2000) (by kernel_rfl)
theorem awW(a:H)(b:KV)(c:b (.bool true) a):W1 (.func 4) [] a b:=Ex Aft c
end Go.Den
