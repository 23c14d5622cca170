/-
  A part of the proof: closed runs of the law.
-/
import Derived.Test.YtbjfkibkjjmdnaaGreatDoorTs0
import Derived.KernelRfl
namespace Go.Den
set_option maxRecDepth 100000
theorem gr2_2 : RS 2 2 := by unfold RS; kernel_rfl
theorem gr3_1 : RS 3 1 := by unfold RS; kernel_rfl
theorem gr5_1 : RS 5 1 := by unfold RS; kernel_rfl
theorem gr6_3 : RS 6 3 := by unfold RS; kernel_rfl
theorem gr8_7 : RS 8 7 := by unfold RS; kernel_rfl
theorem gr8_8 : RS 8 8 := by unfold RS; kernel_rfl
theorem gr11_1 : RS 11 1 := by unfold RS; kernel_rfl
theorem gr12_1 : RS 12 1 := by unfold RS; kernel_rfl
theorem gr14_3 : RS 14 3 := by unfold RS; kernel_rfl
theorem gr14_8 : RS 14 8 := by unfold RS; kernel_rfl
end Go.Den
