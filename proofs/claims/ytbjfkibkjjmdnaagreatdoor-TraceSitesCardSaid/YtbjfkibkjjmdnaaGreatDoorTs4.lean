/-
  A part of the proof: closed runs of the law.
-/
import Derived.Test.YtbjfkibkjjmdnaaGreatDoorTs0
import Derived.KernelRfl
namespace Go.Den
set_option maxRecDepth 100000
theorem gr2_4 : RS 2 4 := by unfold RS; kernel_rfl
theorem gr3_10 : RS 3 10 := by unfold RS; kernel_rfl
theorem gr4_4 : RS 4 4 := by unfold RS; kernel_rfl
theorem gr7_2 : RS 7 2 := by unfold RS; kernel_rfl
theorem gr7_7 : RS 7 7 := by unfold RS; kernel_rfl
theorem gr9_10 : RS 9 10 := by unfold RS; kernel_rfl
theorem gr10_6 : RS 10 6 := by unfold RS; kernel_rfl
theorem gr12_7 : RS 12 7 := by unfold RS; kernel_rfl
theorem gr13_4 : RS 13 4 := by unfold RS; kernel_rfl
theorem gr15_7 : RS 15 7 := by unfold RS; kernel_rfl
end Go.Den
