/-
  A part of the proof: closed runs of the law.
-/
import Derived.Test.YtpnfpdmkladmpaaGreatDoorReg0
import Derived.KernelRfl
namespace Go.Den
set_option maxRecDepth 100000
theorem g2_1 : RR 2 1 [2, 2] := fun d => by kernel_rfl
theorem g4_2 : RR 4 2 [2, 2] := fun d => by kernel_rfl
theorem g6_6 : RR 6 6 [2, 2] := fun d => by kernel_rfl
theorem g7_5 : RR 7 5 [2, 2] := fun d => by kernel_rfl
theorem g8_6 : RR 8 6 [2, 2] := fun d => by kernel_rfl
theorem g9_8 : RR 9 8 [2, 2] := fun d => by kernel_rfl
theorem g10_2 : RR 10 2 [2, 2] := fun d => by kernel_rfl
theorem g10_10 : RR 10 10 [2, 2] := fun d => by kernel_rfl
theorem g11_6 : RR 11 6 [2, 2] := fun d => by kernel_rfl
theorem g12_3 : RR 12 3 [2, 2] := fun d => by kernel_rfl
theorem g12_11 : RR 12 11 [2, 2] := fun d => by kernel_rfl
theorem g13_1 : RR 13 1 [2, 2] := fun d => by kernel_rfl
theorem g13_9 : RR 13 9 [2, 2] := fun d => by kernel_rfl
theorem g14_8 : RR 14 8 [2, 2] := fun d => by kernel_rfl
theorem g15_7 : RR 15 7 [2, 2] := fun d => by kernel_rfl
theorem g15_15 : RR 15 15 [2, 2] := fun d => by kernel_rfl
theorem g16_7 : RR 16 7 [2, 2] := fun d => by kernel_rfl
theorem g16_15 : RR 16 15 [2, 2] := fun d => by kernel_rfl
theorem g17_1 : RR 17 1 [2, 2] := fun d => by kernel_rfl
theorem g17_7 : RR 17 7 [2, 2] := fun d => by kernel_rfl
theorem g17_15 : RR 17 15 [2, 2] := fun d => by kernel_rfl
theorem g18_4 : RR 18 4 [2, 2] := fun d => by kernel_rfl
theorem g18_12 : RR 18 12 [2, 2] := fun d => by kernel_rfl
theorem g19_8 : RR 19 8 [2, 2] := fun d => by kernel_rfl
theorem g19_16 : RR 19 16 [2, 2] := fun d => by kernel_rfl
theorem g20_2 : RR 20 2 [2, 2] := fun d => by kernel_rfl
theorem g20_10 : RR 20 10 [2, 2] := fun d => by kernel_rfl
theorem g20_18 : RR 20 18 [2, 2] := fun d => by kernel_rfl
end Go.Den
