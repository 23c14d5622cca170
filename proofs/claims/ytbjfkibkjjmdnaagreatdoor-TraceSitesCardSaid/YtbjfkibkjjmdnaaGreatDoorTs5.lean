/-
  A part of the proof: closed runs of the law.
-/
import Derived.Test.YtbjfkibkjjmdnaaGreatDoorTs0
import Derived.KernelRfl
namespace Go.Den
set_option maxRecDepth 100000
theorem gr2_5 : RS 2 5 := by unfold RS; kernel_rfl
theorem gr3_9 : RS 3 9 := by unfold RS; kernel_rfl
theorem gr4_5 : RS 4 5 := by unfold RS; kernel_rfl
theorem gr7_1 : RS 7 1 := by unfold RS; kernel_rfl
theorem gr7_8 : RS 7 8 := by unfold RS; kernel_rfl
theorem gr9_9 : RS 9 9 := by unfold RS; kernel_rfl
theorem gr10_7 : RS 10 7 := by unfold RS; kernel_rfl
theorem gr12_6 : RS 12 6 := by unfold RS; kernel_rfl
theorem gr13_5 : RS 13 5 := by unfold RS; kernel_rfl
theorem gr15_6 : RS 15 6 := by unfold RS; kernel_rfl
end Go.Den
