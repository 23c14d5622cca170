/-
  A part of the proof: closed runs of the law.
-/
import Derived.Test.YtbjfkibkjjmdnaaGreatDoorTs0
import Derived.KernelRfl
namespace Go.Den
set_option maxRecDepth 100000
theorem gr1_8 : RS 1 8 := by unfold RS; kernel_rfl
theorem gr4_0 : RS 4 0 := by unfold RS; kernel_rfl
theorem gr4_10 : RS 4 10 := by unfold RS; kernel_rfl
theorem gr6_4 : RS 6 4 := by unfold RS; kernel_rfl
theorem gr8_6 : RS 8 6 := by unfold RS; kernel_rfl
theorem gr8_9 : RS 8 9 := by unfold RS; kernel_rfl
theorem gr11_2 : RS 11 2 := by unfold RS; kernel_rfl
theorem gr12_0 : RS 12 0 := by unfold RS; kernel_rfl
theorem gr14_1 : RS 14 1 := by unfold RS; kernel_rfl
theorem gr14_10 : RS 14 10 := by unfold RS; kernel_rfl
end Go.Den
