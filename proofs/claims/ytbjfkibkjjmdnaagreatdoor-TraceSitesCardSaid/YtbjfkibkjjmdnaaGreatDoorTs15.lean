/-
  A part of the proof: closed runs of the law.
-/
import Derived.Test.YtbjfkibkjjmdnaaGreatDoorTs0
import Derived.KernelRfl
namespace Go.Den
set_option maxRecDepth 100000
theorem gr2_9 : RS 2 9 := by unfold RS; kernel_rfl
theorem gr2_10 : RS 2 10 := by unfold RS; kernel_rfl
theorem gr5_3 : RS 5 3 := by unfold RS; kernel_rfl
theorem gr6_0 : RS 6 0 := by unfold RS; kernel_rfl
theorem gr8_2 : RS 8 2 := by unfold RS; kernel_rfl
theorem gr9_4 : RS 9 4 := by unfold RS; kernel_rfl
theorem gr11_5 : RS 11 5 := by unfold RS; kernel_rfl
theorem gr11_9 : RS 11 9 := by unfold RS; kernel_rfl
theorem gr14_4 : RS 14 4 := by unfold RS; kernel_rfl
theorem gr14_7 : RS 14 7 := by unfold RS; kernel_rfl
end Go.Den
