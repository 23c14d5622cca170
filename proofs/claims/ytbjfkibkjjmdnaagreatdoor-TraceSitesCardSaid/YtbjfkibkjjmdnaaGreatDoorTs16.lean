/-
  A part of the proof: closed runs of the law.
-/
import Derived.Test.YtbjfkibkjjmdnaaGreatDoorTs0
import Derived.KernelRfl
namespace Go.Den
set_option maxRecDepth 100000
theorem gr2_8 : RS 2 8 := by unfold RS; kernel_rfl
theorem gr3_6 : RS 3 6 := by unfold RS; kernel_rfl
theorem gr5_8 : RS 5 8 := by unfold RS; kernel_rfl
theorem gr5_9 : RS 5 9 := by unfold RS; kernel_rfl
theorem gr8_4 : RS 8 4 := by unfold RS; kernel_rfl
theorem gr9_2 : RS 9 2 := by unfold RS; kernel_rfl
theorem gr11_6 : RS 11 6 := by unfold RS; kernel_rfl
theorem gr11_8 : RS 11 8 := by unfold RS; kernel_rfl
theorem gr14_5 : RS 14 5 := by unfold RS; kernel_rfl
theorem gr14_6 : RS 14 6 := by unfold RS; kernel_rfl
end Go.Den
