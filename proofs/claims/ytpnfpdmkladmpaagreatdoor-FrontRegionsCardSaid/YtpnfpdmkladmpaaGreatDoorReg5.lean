/-
  A part of the proof: closed runs of the law.
-/
import Derived.Test.YtpnfpdmkladmpaaGreatDoorReg0
import Derived.KernelRfl
namespace Go.Den
set_option maxRecDepth 100000
theorem g2_0 : RR 2 0 [2] := fun d => by kernel_rfl
theorem g4_1 : RR 4 1 [2, 2] := fun d => by kernel_rfl
theorem g6_0 : RR 6 0 [2] := fun d => by kernel_rfl
theorem g6_5 : RR 6 5 [2, 2] := fun d => by kernel_rfl
theorem g8_8 : RR 8 8 [2, 2] := fun d => by kernel_rfl
theorem g9_1 : RR 9 1 [2, 2] := fun d => by kernel_rfl
theorem g9_9 : RR 9 9 [2, 2] := fun d => by kernel_rfl
theorem g10_0 : RR 10 0 [2] := fun d => by kernel_rfl
theorem g10_4 : RR 10 4 [2, 2] := fun d => by kernel_rfl
theorem g11_4 : RR 11 4 [2, 2] := fun d => by kernel_rfl
theorem g12_9 : RR 12 9 [2, 2] := fun d => by kernel_rfl
theorem g13_5 : RR 13 5 [2, 2] := fun d => by kernel_rfl
theorem g13_13 : RR 13 13 [2, 2] := fun d => by kernel_rfl
theorem g14_3 : RR 14 3 [2, 2] := fun d => by kernel_rfl
theorem g14_11 : RR 14 11 [2, 2] := fun d => by kernel_rfl
theorem g15_0 : RR 15 0 [2] := fun d => by kernel_rfl
theorem g15_2 : RR 15 2 [2, 2] := fun d => by kernel_rfl
theorem g15_10 : RR 15 10 [2, 2] := fun d => by kernel_rfl
theorem g16_9 : RR 16 9 [2, 2] := fun d => by kernel_rfl
theorem g17_3 : RR 17 3 [2, 2] := fun d => by kernel_rfl
theorem g17_9 : RR 17 9 [2, 2] := fun d => by kernel_rfl
theorem g17_17 : RR 17 17 [2, 2] := fun d => by kernel_rfl
theorem g18_6 : RR 18 6 [2, 2] := fun d => by kernel_rfl
theorem g18_14 : RR 18 14 [2, 2] := fun d => by kernel_rfl
theorem g19_10 : RR 19 10 [2, 2] := fun d => by kernel_rfl
theorem g19_18 : RR 19 18 [2, 2] := fun d => by kernel_rfl
theorem g20_4 : RR 20 4 [2, 2] := fun d => by kernel_rfl
theorem g20_12 : RR 20 12 [2, 2] := fun d => by kernel_rfl
theorem g20_20 : RR 20 20 [2, 2] := fun d => by kernel_rfl
end Go.Den
