/-
  A part of the proof: what the law's closed call answers.
-/
import Derived.Test.YtpjkiikmjddpiaaGreatDoorTob
import Derived.KernelRfl
namespace Go.Den
set_option maxRecDepth 100000
theorem awTold:Pure PP G h0 7 [] (.bool true):=true_run (m:=5000) (n:=2000) (by kernel_rfl)
theorem awW(h:H)(k:KV)(hk:k (.bool true) h):W1 (.func 7) [] h k:=use2 awTold hk
end Go.Den
