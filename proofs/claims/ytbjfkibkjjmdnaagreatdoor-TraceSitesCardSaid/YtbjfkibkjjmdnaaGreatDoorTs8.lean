/-
  A part of the proof: closed runs of the law.
-/
import Derived.Test.YtbjfkibkjjmdnaaGreatDoorTs0
import Derived.KernelRfl
namespace Go.Den
set_option maxRecDepth 100000
theorem gr2_0 : RS 2 0 := by unfold RS; kernel_rfl
theorem gr3_2 : RS 3 2 := by unfold RS; kernel_rfl
theorem gr5_0 : RS 5 0 := by unfold RS; kernel_rfl
theorem gr6_2 : RS 6 2 := by unfold RS; kernel_rfl
theorem gr8_0 : RS 8 0 := by unfold RS; kernel_rfl
theorem gr9_6 : RS 9 6 := by unfold RS; kernel_rfl
theorem gr10_3 : RS 10 3 := by unfold RS; kernel_rfl
theorem gr12_10 : RS 12 10 := by unfold RS; kernel_rfl
theorem gr13_8 : RS 13 8 := by unfold RS; kernel_rfl
theorem gr15_3 : RS 15 3 := by unfold RS; kernel_rfl
end Go.Den
