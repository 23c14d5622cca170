/-
  A part of the proof: closed runs of the law.
-/
import Derived.Test.YtbjfkibkjjmdnaaGreatDoorTs0
import Derived.KernelRfl
namespace Go.Den
set_option maxRecDepth 100000
theorem gr2_1 : RS 2 1 := by unfold RS; kernel_rfl
theorem gr3_3 : RS 3 3 := by unfold RS; kernel_rfl
theorem gr5_5 : RS 5 5 := by unfold RS; kernel_rfl
theorem gr6_8 : RS 6 8 := by unfold RS; kernel_rfl
theorem gr7_5 : RS 7 5 := by unfold RS; kernel_rfl
theorem gr9_0 : RS 9 0 := by unfold RS; kernel_rfl
theorem gr10_2 : RS 10 2 := by unfold RS; kernel_rfl
theorem gr13_0 : RS 13 0 := by unfold RS; kernel_rfl
theorem gr13_3 : RS 13 3 := by unfold RS; kernel_rfl
theorem gr15_8 : RS 15 8 := by unfold RS; kernel_rfl
end Go.Den
