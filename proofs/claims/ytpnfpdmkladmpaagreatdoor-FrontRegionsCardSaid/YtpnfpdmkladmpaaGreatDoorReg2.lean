/-
  A part of the proof: closed runs of the law.
-/
import Derived.Test.YtpnfpdmkladmpaaGreatDoorReg0
import Derived.KernelRfl
namespace Go.Den
set_option maxRecDepth 100000
theorem g3_1 : RR 3 1 [2, 2] := fun d => by kernel_rfl
theorem g5_3 : RR 5 3 [2, 2] := fun d => by kernel_rfl
theorem g6_1 : RR 6 1 [2, 2] := fun d => by kernel_rfl
theorem g7_1 : RR 7 1 [2, 2] := fun d => by kernel_rfl
theorem g8_2 : RR 8 2 [2, 2] := fun d => by kernel_rfl
theorem g9_4 : RR 9 4 [2, 2] := fun d => by kernel_rfl
theorem g10_7 : RR 10 7 [2, 2] := fun d => by kernel_rfl
theorem g11_2 : RR 11 2 [2, 2] := fun d => by kernel_rfl
theorem g11_10 : RR 11 10 [2, 2] := fun d => by kernel_rfl
theorem g12_1 : RR 12 1 [2, 2] := fun d => by kernel_rfl
theorem g12_7 : RR 12 7 [2, 2] := fun d => by kernel_rfl
theorem g13_7 : RR 13 7 [2, 2] := fun d => by kernel_rfl
theorem g14_5 : RR 14 5 [2, 2] := fun d => by kernel_rfl
theorem g14_13 : RR 14 13 [2, 2] := fun d => by kernel_rfl
theorem g15_4 : RR 15 4 [2, 2] := fun d => by kernel_rfl
theorem g15_12 : RR 15 12 [2, 2] := fun d => by kernel_rfl
theorem g16_4 : RR 16 4 [2, 2] := fun d => by kernel_rfl
theorem g16_12 : RR 16 12 [2, 2] := fun d => by kernel_rfl
theorem g17_0 : RR 17 0 [2] := fun d => by kernel_rfl
theorem g17_5 : RR 17 5 [2, 2] := fun d => by kernel_rfl
theorem g17_13 : RR 17 13 [2, 2] := fun d => by kernel_rfl
theorem g18_3 : RR 18 3 [2, 2] := fun d => by kernel_rfl
theorem g18_11 : RR 18 11 [2, 2] := fun d => by kernel_rfl
theorem g19_7 : RR 19 7 [2, 2] := fun d => by kernel_rfl
theorem g19_15 : RR 19 15 [2, 2] := fun d => by kernel_rfl
theorem g20_1 : RR 20 1 [2, 2] := fun d => by kernel_rfl
theorem g20_9 : RR 20 9 [2, 2] := fun d => by kernel_rfl
theorem g20_17 : RR 20 17 [2, 2] := fun d => by kernel_rfl
end Go.Den
