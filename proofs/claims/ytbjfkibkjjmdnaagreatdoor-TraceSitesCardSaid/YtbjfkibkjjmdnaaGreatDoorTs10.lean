/-
  A part of the proof: closed runs of the law.
-/
import Derived.Test.YtbjfkibkjjmdnaaGreatDoorTs0
import Derived.KernelRfl
namespace Go.Den
set_option maxRecDepth 100000
theorem gr1_0 : RS 1 0 := by unfold RS; kernel_rfl
theorem gr1_6 : RS 1 6 := by unfold RS; kernel_rfl
theorem gr4_2 : RS 4 2 := by unfold RS; kernel_rfl
theorem gr4_8 : RS 4 8 := by unfold RS; kernel_rfl
theorem gr6_6 : RS 6 6 := by unfold RS; kernel_rfl
theorem gr8_5 : RS 8 5 := by unfold RS; kernel_rfl
theorem gr8_10 : RS 8 10 := by unfold RS; kernel_rfl
theorem gr11_0 : RS 11 0 := by unfold RS; kernel_rfl
theorem gr12_2 : RS 12 2 := by unfold RS; kernel_rfl
theorem gr13_10 : RS 13 10 := by unfold RS; kernel_rfl
theorem gr15_1 : RS 15 1 := by unfold RS; kernel_rfl
end Go.Den
