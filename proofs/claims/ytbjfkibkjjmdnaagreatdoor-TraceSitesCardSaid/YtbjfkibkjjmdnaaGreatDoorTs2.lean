/-
  A part of the proof: closed runs of the law.
-/
import Derived.Test.YtbjfkibkjjmdnaaGreatDoorTs0
import Derived.KernelRfl
namespace Go.Den
set_option maxRecDepth 100000
theorem gr1_1 : RS 1 1 := by unfold RS; kernel_rfl
theorem gr1_7 : RS 1 7 := by unfold RS; kernel_rfl
theorem gr4_1 : RS 4 1 := by unfold RS; kernel_rfl
theorem gr4_9 : RS 4 9 := by unfold RS; kernel_rfl
theorem gr6_5 : RS 6 5 := by unfold RS; kernel_rfl
theorem gr7_4 : RS 7 4 := by unfold RS; kernel_rfl
theorem gr10_0 : RS 10 0 := by unfold RS; kernel_rfl
theorem gr10_5 : RS 10 5 := by unfold RS; kernel_rfl
theorem gr12_8 : RS 12 8 := by unfold RS; kernel_rfl
theorem gr13_2 : RS 13 2 := by unfold RS; kernel_rfl
theorem gr15_9 : RS 15 9 := by unfold RS; kernel_rfl
end Go.Den
