/-
  A part of the proof: closed runs of the law.
-/
import Derived.Test.YtpnfpdmkladmpaaGreatDoorReg0
import Derived.KernelRfl
namespace Go.Den
set_option maxRecDepth 100000
theorem g3_3 : RR 3 3 [2, 2] := fun d => by kernel_rfl
theorem g5_5 : RR 5 5 [2, 2] := fun d => by kernel_rfl
theorem g6_3 : RR 6 3 [2, 2] := fun d => by kernel_rfl
theorem g7_3 : RR 7 3 [2, 2] := fun d => by kernel_rfl
theorem g8_4 : RR 8 4 [2, 2] := fun d => by kernel_rfl
theorem g9_6 : RR 9 6 [2, 2] := fun d => by kernel_rfl
theorem g10_1 : RR 10 1 [2, 2] := fun d => by kernel_rfl
theorem g10_9 : RR 10 9 [2, 2] := fun d => by kernel_rfl
theorem g11_5 : RR 11 5 [2, 2] := fun d => by kernel_rfl
theorem g12_2 : RR 12 2 [2, 2] := fun d => by kernel_rfl
theorem g12_10 : RR 12 10 [2, 2] := fun d => by kernel_rfl
theorem g13_8 : RR 13 8 [2, 2] := fun d => by kernel_rfl
theorem g14_6 : RR 14 6 [2, 2] := fun d => by kernel_rfl
theorem g14_14 : RR 14 14 [2, 2] := fun d => by kernel_rfl
theorem g15_5 : RR 15 5 [2, 2] := fun d => by kernel_rfl
theorem g15_13 : RR 15 13 [2, 2] := fun d => by kernel_rfl
theorem g16_5 : RR 16 5 [2, 2] := fun d => by kernel_rfl
theorem g16_13 : RR 16 13 [2, 2] := fun d => by kernel_rfl
theorem g17_6 : RR 17 6 [2, 2] := fun d => by kernel_rfl
theorem g17_14 : RR 17 14 [2, 2] := fun d => by kernel_rfl
theorem g18_8 : RR 18 8 [2, 2] := fun d => by kernel_rfl
theorem g18_16 : RR 18 16 [2, 2] := fun d => by kernel_rfl
theorem g19_0 : RR 19 0 [2] := fun d => by kernel_rfl
theorem g19_3 : RR 19 3 [2, 2] := fun d => by kernel_rfl
theorem g19_11 : RR 19 11 [2, 2] := fun d => by kernel_rfl
theorem g19_19 : RR 19 19 [2, 2] := fun d => by kernel_rfl
theorem g20_5 : RR 20 5 [2, 2] := fun d => by kernel_rfl
theorem g20_13 : RR 20 13 [2, 2] := fun d => by kernel_rfl
end Go.Den
