/-
  A part of the proof: closed runs of the law.
-/
import Derived.Test.YtbjfkibkjjmdnaaGreatDoorTs0
import Derived.KernelRfl
namespace Go.Den
set_option maxRecDepth 100000
theorem gr1_3 : RS 1 3 := by unfold RS; kernel_rfl
theorem gr1_10 : RS 1 10 := by unfold RS; kernel_rfl
theorem gr3_4 : RS 3 4 := by unfold RS; kernel_rfl
theorem gr5_4 : RS 5 4 := by unfold RS; kernel_rfl
theorem gr6_9 : RS 6 9 := by unfold RS; kernel_rfl
theorem gr7_6 : RS 7 6 := by unfold RS; kernel_rfl
theorem gr9_1 : RS 9 1 := by unfold RS; kernel_rfl
theorem gr11_3 : RS 11 3 := by unfold RS; kernel_rfl
theorem gr11_7 : RS 11 7 := by unfold RS; kernel_rfl
theorem gr14_0 : RS 14 0 := by unfold RS; kernel_rfl
theorem gr15_0 : RS 15 0 := by unfold RS; kernel_rfl
end Go.Den
