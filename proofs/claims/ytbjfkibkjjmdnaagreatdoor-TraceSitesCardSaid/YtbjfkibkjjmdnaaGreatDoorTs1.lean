/-
  A part of the proof: closed runs of the law.
-/
import Derived.Test.YtbjfkibkjjmdnaaGreatDoorTs0
import Derived.KernelRfl
namespace Go.Den
set_option maxRecDepth 100000
theorem gr1_2 : RS 1 2 := by unfold RS; kernel_rfl
theorem gr1_5 : RS 1 5 := by unfold RS; kernel_rfl
theorem gr4_3 : RS 4 3 := by unfold RS; kernel_rfl
theorem gr4_7 : RS 4 7 := by unfold RS; kernel_rfl
theorem gr6_7 : RS 6 7 := by unfold RS; kernel_rfl
theorem gr7_3 : RS 7 3 := by unfold RS; kernel_rfl
theorem gr10_1 : RS 10 1 := by unfold RS; kernel_rfl
theorem gr10_4 : RS 10 4 := by unfold RS; kernel_rfl
theorem gr12_9 : RS 12 9 := by unfold RS; kernel_rfl
theorem gr13_1 : RS 13 1 := by unfold RS; kernel_rfl
theorem gr15_10 : RS 15 10 := by unfold RS; kernel_rfl
end Go.Den
