/-
  A part of the proof: a run of the law, its depth left free.
-/
import Derived.Test.YtbjfkibkjjmdnaaGreatDoorFs0
import Derived.KernelRfl
namespace Go.Den
set_option maxRecDepth 100000
theorem r_0t : RunF ab0 ba0 0 true 0 100 513 := by
  unfold RunF
  intro e
  kernel_rfl
end Go.Den
