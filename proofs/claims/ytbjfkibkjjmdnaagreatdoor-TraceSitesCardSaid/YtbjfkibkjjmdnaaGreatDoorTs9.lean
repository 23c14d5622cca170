/-
  A part of the proof: closed runs of the law.
-/
import Derived.Test.YtbjfkibkjjmdnaaGreatDoorTs0
import Derived.KernelRfl
namespace Go.Den
set_option maxRecDepth 100000
theorem gr2_3 : RS 2 3 := by unfold RS; kernel_rfl
theorem gr3_0 : RS 3 0 := by unfold RS; kernel_rfl
theorem gr5_2 : RS 5 2 := by unfold RS; kernel_rfl
theorem gr6_1 : RS 6 1 := by unfold RS; kernel_rfl
theorem gr8_1 : RS 8 1 := by unfold RS; kernel_rfl
theorem gr9_5 : RS 9 5 := by unfold RS; kernel_rfl
theorem gr10_10 : RS 10 10 := by unfold RS; kernel_rfl
theorem gr12_3 : RS 12 3 := by unfold RS; kernel_rfl
theorem gr13_9 : RS 13 9 := by unfold RS; kernel_rfl
theorem gr15_2 : RS 15 2 := by unfold RS; kernel_rfl
end Go.Den
