/-
  A part of the proof: closed runs of the law.
-/
import Derived.Test.YtbjfkibkjjmdnaaGreatDoorTs0
import Derived.KernelRfl
namespace Go.Den
set_option maxRecDepth 100000
theorem gr2_6 : RS 2 6 := by unfold RS; kernel_rfl
theorem gr3_7 : RS 3 7 := by unfold RS; kernel_rfl
theorem gr5_7 : RS 5 7 := by unfold RS; kernel_rfl
theorem gr5_10 : RS 5 10 := by unfold RS; kernel_rfl
theorem gr8_3 : RS 8 3 := by unfold RS; kernel_rfl
theorem gr9_3 : RS 9 3 := by unfold RS; kernel_rfl
theorem gr11_4 : RS 11 4 := by unfold RS; kernel_rfl
theorem gr11_10 : RS 11 10 := by unfold RS; kernel_rfl
theorem gr14_2 : RS 14 2 := by unfold RS; kernel_rfl
theorem gr14_9 : RS 14 9 := by unfold RS; kernel_rfl
end Go.Den
