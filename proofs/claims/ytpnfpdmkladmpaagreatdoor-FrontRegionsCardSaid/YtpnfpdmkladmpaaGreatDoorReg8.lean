/-
  A part of the proof: closed runs of the law.
-/
import Derived.Test.YtpnfpdmkladmpaaGreatDoorReg0
import Derived.KernelRfl
namespace Go.Den
set_option maxRecDepth 100000
theorem g1_1 : RR 1 1 [2, 2] := fun d => by kernel_rfl
theorem g4_4 : RR 4 4 [2, 2] := fun d => by kernel_rfl
theorem g5_1 : RR 5 1 [2, 2] := fun d => by kernel_rfl
theorem g7_0 : RR 7 0 [2] := fun d => by kernel_rfl
theorem g7_7 : RR 7 7 [2, 2] := fun d => by kernel_rfl
theorem g8_1 : RR 8 1 [2, 2] := fun d => by kernel_rfl
theorem g9_3 : RR 9 3 [2, 2] := fun d => by kernel_rfl
theorem g10_6 : RR 10 6 [2, 2] := fun d => by kernel_rfl
theorem g11_1 : RR 11 1 [2, 2] := fun d => by kernel_rfl
theorem g11_9 : RR 11 9 [2, 2] := fun d => by kernel_rfl
theorem g12_6 : RR 12 6 [2, 2] := fun d => by kernel_rfl
theorem g13_0 : RR 13 0 [2] := fun d => by kernel_rfl
theorem g13_3 : RR 13 3 [2, 2] := fun d => by kernel_rfl
theorem g13_11 : RR 13 11 [2, 2] := fun d => by kernel_rfl
theorem g14_7 : RR 14 7 [2, 2] := fun d => by kernel_rfl
theorem g15_6 : RR 15 6 [2, 2] := fun d => by kernel_rfl
theorem g15_14 : RR 15 14 [2, 2] := fun d => by kernel_rfl
theorem g16_1 : RR 16 1 [2, 2] := fun d => by kernel_rfl
theorem g16_6 : RR 16 6 [2, 2] := fun d => by kernel_rfl
theorem g16_14 : RR 16 14 [2, 2] := fun d => by kernel_rfl
theorem g17_11 : RR 17 11 [2, 2] := fun d => by kernel_rfl
theorem g18_2 : RR 18 2 [2, 2] := fun d => by kernel_rfl
theorem g18_10 : RR 18 10 [2, 2] := fun d => by kernel_rfl
theorem g18_18 : RR 18 18 [2, 2] := fun d => by kernel_rfl
theorem g19_2 : RR 19 2 [2, 2] := fun d => by kernel_rfl
theorem g19_6 : RR 19 6 [2, 2] := fun d => by kernel_rfl
theorem g19_14 : RR 19 14 [2, 2] := fun d => by kernel_rfl
theorem g20_7 : RR 20 7 [2, 2] := fun d => by kernel_rfl
theorem g20_15 : RR 20 15 [2, 2] := fun d => by kernel_rfl
end Go.Den
