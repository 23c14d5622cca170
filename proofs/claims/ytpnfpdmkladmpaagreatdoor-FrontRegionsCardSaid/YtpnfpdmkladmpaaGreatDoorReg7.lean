/-
  A part of the proof: closed runs of the law.
-/
import Derived.Test.YtpnfpdmkladmpaaGreatDoorReg0
import Derived.KernelRfl
namespace Go.Den
set_option maxRecDepth 100000
theorem g2_2 : RR 2 2 [2, 2] := fun d => by kernel_rfl
theorem g3_0 : RR 3 0 [2] := fun d => by kernel_rfl
theorem g5_0 : RR 5 0 [2] := fun d => by kernel_rfl
theorem g5_2 : RR 5 2 [2, 2] := fun d => by kernel_rfl
theorem g7_6 : RR 7 6 [2, 2] := fun d => by kernel_rfl
theorem gr8_0 : RR 8 0 [2] := fun d => by kernel_rfl
theorem g8_7 : RR 8 7 [2, 2] := fun d => by kernel_rfl
theorem g9_2 : RR 9 2 [2, 2] := fun d => by kernel_rfl
theorem g10_5 : RR 10 5 [2, 2] := fun d => by kernel_rfl
theorem g11_8 : RR 11 8 [2, 2] := fun d => by kernel_rfl
theorem g12_0 : RR 12 0 [2] := fun d => by kernel_rfl
theorem g12_4 : RR 12 4 [2, 2] := fun d => by kernel_rfl
theorem g12_12 : RR 12 12 [2, 2] := fun d => by kernel_rfl
theorem g13_6 : RR 13 6 [2, 2] := fun d => by kernel_rfl
theorem g14_4 : RR 14 4 [2, 2] := fun d => by kernel_rfl
theorem g14_12 : RR 14 12 [2, 2] := fun d => by kernel_rfl
theorem g15_3 : RR 15 3 [2, 2] := fun d => by kernel_rfl
theorem g15_11 : RR 15 11 [2, 2] := fun d => by kernel_rfl
theorem g16_0 : RR 16 0 [2] := fun d => by kernel_rfl
theorem g16_3 : RR 16 3 [2, 2] := fun d => by kernel_rfl
theorem g16_11 : RR 16 11 [2, 2] := fun d => by kernel_rfl
theorem g17_10 : RR 17 10 [2, 2] := fun d => by kernel_rfl
theorem g18_1 : RR 18 1 [2, 2] := fun d => by kernel_rfl
theorem g18_9 : RR 18 9 [2, 2] := fun d => by kernel_rfl
theorem g18_17 : RR 18 17 [2, 2] := fun d => by kernel_rfl
theorem g19_1 : RR 19 1 [2, 2] := fun d => by kernel_rfl
theorem g19_5 : RR 19 5 [2, 2] := fun d => by kernel_rfl
theorem g19_13 : RR 19 13 [2, 2] := fun d => by kernel_rfl
theorem g20_6 : RR 20 6 [2, 2] := fun d => by kernel_rfl
theorem g20_14 : RR 20 14 [2, 2] := fun d => by kernel_rfl
end Go.Den
