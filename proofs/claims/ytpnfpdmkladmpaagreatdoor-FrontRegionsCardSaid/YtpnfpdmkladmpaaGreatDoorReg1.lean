/-
  A part of the proof: closed runs of the law.
-/
import Derived.Test.YtpnfpdmkladmpaaGreatDoorReg0
import Derived.KernelRfl
namespace Go.Den
set_option maxRecDepth 100000
theorem g1_0 : RR 1 0 [2] := fun d => by kernel_rfl
theorem g4_0 : RR 4 0 [2] := fun d => by kernel_rfl
theorem g4_3 : RR 4 3 [2, 2] := fun d => by kernel_rfl
theorem g6_4 : RR 6 4 [2, 2] := fun d => by kernel_rfl
theorem g7_4 : RR 7 4 [2, 2] := fun d => by kernel_rfl
theorem g8_5 : RR 8 5 [2, 2] := fun d => by kernel_rfl
theorem g9_0 : RR 9 0 [2] := fun d => by kernel_rfl
theorem g9_7 : RR 9 7 [2, 2] := fun d => by kernel_rfl
theorem g10_3 : RR 10 3 [2, 2] := fun d => by kernel_rfl
theorem g11_0 : RR 11 0 [2] := fun d => by kernel_rfl
theorem g11_7 : RR 11 7 [2, 2] := fun d => by kernel_rfl
theorem g12_5 : RR 12 5 [2, 2] := fun d => by kernel_rfl
theorem g13_2 : RR 13 2 [2, 2] := fun d => by kernel_rfl
theorem g13_10 : RR 13 10 [2, 2] := fun d => by kernel_rfl
theorem g14_1 : RR 14 1 [2, 2] := fun d => by kernel_rfl
theorem g14_9 : RR 14 9 [2, 2] := fun d => by kernel_rfl
theorem g15_1 : RR 15 1 [2, 2] := fun d => by kernel_rfl
theorem g15_9 : RR 15 9 [2, 2] := fun d => by kernel_rfl
theorem g16_2 : RR 16 2 [2, 2] := fun d => by kernel_rfl
theorem g16_10 : RR 16 10 [2, 2] := fun d => by kernel_rfl
theorem g17_4 : RR 17 4 [2, 2] := fun d => by kernel_rfl
theorem g17_12 : RR 17 12 [2, 2] := fun d => by kernel_rfl
theorem g18_0 : RR 18 0 [2] := fun d => by kernel_rfl
theorem g18_7 : RR 18 7 [2, 2] := fun d => by kernel_rfl
theorem g18_15 : RR 18 15 [2, 2] := fun d => by kernel_rfl
theorem g19_4 : RR 19 4 [2, 2] := fun d => by kernel_rfl
theorem g19_12 : RR 19 12 [2, 2] := fun d => by kernel_rfl
theorem g20_0 : RR 20 0 [2] := fun d => by kernel_rfl
theorem g20_8 : RR 20 8 [2, 2] := fun d => by kernel_rfl
theorem g20_16 : RR 20 16 [2, 2] := fun d => by kernel_rfl
end Go.Den
