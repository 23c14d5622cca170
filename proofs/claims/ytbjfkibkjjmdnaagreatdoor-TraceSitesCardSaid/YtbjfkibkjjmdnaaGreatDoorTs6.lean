/-
  A part of the proof: closed runs of the law.
-/
import Derived.Test.YtbjfkibkjjmdnaaGreatDoorTs0
import Derived.KernelRfl
namespace Go.Den
set_option maxRecDepth 100000
theorem gr2_7 : RS 2 7 := by unfold RS; kernel_rfl
theorem gr3_8 : RS 3 8 := by unfold RS; kernel_rfl
theorem gr4_6 : RS 4 6 := by unfold RS; kernel_rfl
theorem gr7_0 : RS 7 0 := by unfold RS; kernel_rfl
theorem gr7_9 : RS 7 9 := by unfold RS; kernel_rfl
theorem gr9_8 : RS 9 8 := by unfold RS; kernel_rfl
theorem gr10_8 : RS 10 8 := by unfold RS; kernel_rfl
theorem gr12_5 : RS 12 5 := by unfold RS; kernel_rfl
theorem gr13_6 : RS 13 6 := by unfold RS; kernel_rfl
theorem gr15_5 : RS 15 5 := by unfold RS; kernel_rfl
end Go.Den
