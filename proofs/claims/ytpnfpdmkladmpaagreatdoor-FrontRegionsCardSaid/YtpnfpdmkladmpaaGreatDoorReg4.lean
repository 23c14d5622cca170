/-
  A part of the proof: closed runs of the law.
-/
import Derived.Test.YtpnfpdmkladmpaaGreatDoorReg0
import Derived.KernelRfl
namespace Go.Den
set_option maxRecDepth 100000
theorem g3_2 : RR 3 2 [2, 2] := fun d => by kernel_rfl
theorem g5_4 : RR 5 4 [2, 2] := fun d => by kernel_rfl
theorem g6_2 : RR 6 2 [2, 2] := fun d => by kernel_rfl
theorem g7_2 : RR 7 2 [2, 2] := fun d => by kernel_rfl
theorem g8_3 : RR 8 3 [2, 2] := fun d => by kernel_rfl
theorem g9_5 : RR 9 5 [2, 2] := fun d => by kernel_rfl
theorem g10_8 : RR 10 8 [2, 2] := fun d => by kernel_rfl
theorem g11_3 : RR 11 3 [2, 2] := fun d => by kernel_rfl
theorem g11_11 : RR 11 11 [2, 2] := fun d => by kernel_rfl
theorem g12_8 : RR 12 8 [2, 2] := fun d => by kernel_rfl
theorem g13_4 : RR 13 4 [2, 2] := fun d => by kernel_rfl
theorem g13_12 : RR 13 12 [2, 2] := fun d => by kernel_rfl
theorem g14_0 : RR 14 0 [2] := fun d => by kernel_rfl
theorem g14_2 : RR 14 2 [2, 2] := fun d => by kernel_rfl
theorem g14_10 : RR 14 10 [2, 2] := fun d => by kernel_rfl
theorem g15_8 : RR 15 8 [2, 2] := fun d => by kernel_rfl
theorem g16_8 : RR 16 8 [2, 2] := fun d => by kernel_rfl
theorem g16_16 : RR 16 16 [2, 2] := fun d => by kernel_rfl
theorem g17_2 : RR 17 2 [2, 2] := fun d => by kernel_rfl
theorem g17_8 : RR 17 8 [2, 2] := fun d => by kernel_rfl
theorem g17_16 : RR 17 16 [2, 2] := fun d => by kernel_rfl
theorem g18_5 : RR 18 5 [2, 2] := fun d => by kernel_rfl
theorem g18_13 : RR 18 13 [2, 2] := fun d => by kernel_rfl
theorem g19_9 : RR 19 9 [2, 2] := fun d => by kernel_rfl
theorem g19_17 : RR 19 17 [2, 2] := fun d => by kernel_rfl
theorem g20_3 : RR 20 3 [2, 2] := fun d => by kernel_rfl
theorem g20_11 : RR 20 11 [2, 2] := fun d => by kernel_rfl
theorem g20_19 : RR 20 19 [2, 2] := fun d => by kernel_rfl
end Go.Den
