/-
  A part of the proof: closed runs of the law.
-/
import Derived.Test.YtbjfkibkjjmdnaaGreatDoorTs0
import Derived.KernelRfl
namespace Go.Den
set_option maxRecDepth 100000
theorem gr1_4 : RS 1 4 := by unfold RS; kernel_rfl
theorem gr1_9 : RS 1 9 := by unfold RS; kernel_rfl
theorem gr3_5 : RS 3 5 := by unfold RS; kernel_rfl
theorem gr5_6 : RS 5 6 := by unfold RS; kernel_rfl
theorem gr6_10 : RS 6 10 := by unfold RS; kernel_rfl
theorem gr7_10 : RS 7 10 := by unfold RS; kernel_rfl
theorem gr9_7 : RS 9 7 := by unfold RS; kernel_rfl
theorem gr10_9 : RS 10 9 := by unfold RS; kernel_rfl
theorem gr12_4 : RS 12 4 := by unfold RS; kernel_rfl
theorem gr13_7 : RS 13 7 := by unfold RS; kernel_rfl
theorem gr15_4 : RS 15 4 := by unfold RS; kernel_rfl
end Go.Den
