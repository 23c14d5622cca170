/-
  A part of the proof: closed runs of the law.
-/
import Derived.Test.YtpnfpdmkladmpaaGreatDoorFe0
import Derived.KernelRfl
namespace Go.Den
set_option maxRecDepth 100000
theorem gr0_2 : RR 0 2 [] := fun d => by kernel_rfl
theorem gr0_10 : RR 0 10 [2] := fun d => by kernel_rfl
theorem gr0_18 : RR 0 18 [] := fun d => by kernel_rfl
theorem gr1_1 : RR 1 1 [2] := fun d => by kernel_rfl
theorem gr1_9 : RR 1 9 [2] := fun d => by kernel_rfl
theorem gr1_17 : RR 1 17 [2] := fun d => by kernel_rfl
theorem gr2_0 : RR 2 0 [2] := fun d => by kernel_rfl
theorem gr2_8 : RR 2 8 [2] := fun d => by kernel_rfl
theorem gr2_16 : RR 2 16 [2] := fun d => by kernel_rfl
theorem gr3_0 : RR 3 0 [2] := fun d => by kernel_rfl
theorem gr3_7 : RR 3 7 [2] := fun d => by kernel_rfl
theorem gr3_15 : RR 3 15 [2] := fun d => by kernel_rfl
theorem gr4_7 : RR 4 7 [2] := fun d => by kernel_rfl
theorem gr4_15 : RR 4 15 [2] := fun d => by kernel_rfl
theorem gr5_5 : RR 5 5 [2] := fun d => by kernel_rfl
theorem gr5_13 : RR 5 13 [2] := fun d => by kernel_rfl
theorem gr5_21 : RR 5 21 [2] := fun d => by kernel_rfl
theorem gr6_4 : RR 6 4 [2] := fun d => by kernel_rfl
theorem gr6_12 : RR 6 12 [2] := fun d => by kernel_rfl
theorem gr6_20 : RR 6 20 [2] := fun d => by kernel_rfl
theorem gr7_3 : RR 7 3 [2] := fun d => by kernel_rfl
theorem gr7_11 : RR 7 11 [2] := fun d => by kernel_rfl
theorem gr7_19 : RR 7 19 [2] := fun d => by kernel_rfl
theorem gr8_2 : RR 8 2 [2] := fun d => by kernel_rfl
theorem gr8_10 : RR 8 10 [3] := fun d => by kernel_rfl
theorem gr8_18 : RR 8 18 [2] := fun d => by kernel_rfl
theorem gr9_1 : RR 9 1 [2] := fun d => by kernel_rfl
theorem gr9_9 : RR 9 9 [2] := fun d => by kernel_rfl
theorem gr9_17 : RR 9 17 [2] := fun d => by kernel_rfl
theorem gr10_0 : RR 10 0 [2] := fun d => by kernel_rfl
theorem gr10_8 : RR 10 8 [2] := fun d => by kernel_rfl
theorem gr10_16 : RR 10 16 [2] := fun d => by kernel_rfl
theorem gr11_0 : RR 11 0 [2] := fun d => by kernel_rfl
theorem gr11_7 : RR 11 7 [2] := fun d => by kernel_rfl
theorem gr11_15 : RR 11 15 [2] := fun d => by kernel_rfl
theorem gr11_23 : RR 11 23 [3, 3] := fun d => by kernel_rfl
theorem gr12_7 : RR 12 7 [2] := fun d => by kernel_rfl
theorem gr12_15 : RR 12 15 [2] := fun d => by kernel_rfl
theorem gr13_5 : RR 13 5 [2] := fun d => by kernel_rfl
theorem gr13_13 : RR 13 13 [2] := fun d => by kernel_rfl
theorem gr13_21 : RR 13 21 [2] := fun d => by kernel_rfl
theorem gr14_4 : RR 14 4 [2] := fun d => by kernel_rfl
theorem gr14_12 : RR 14 12 [2] := fun d => by kernel_rfl
theorem gr14_20 : RR 14 20 [2] := fun d => by kernel_rfl
theorem gr14_23 : RR 14 23 [3, 3] := fun d => by kernel_rfl
theorem gr15_3 : RR 15 3 [2] := fun d => by kernel_rfl
theorem gr15_11 : RR 15 11 [2] := fun d => by kernel_rfl
theorem gr15_19 : RR 15 19 [2] := fun d => by kernel_rfl
theorem gr16_2 : RR 16 2 [2] := fun d => by kernel_rfl
theorem gr16_10 : RR 16 10 [3] := fun d => by kernel_rfl
theorem gr16_18 : RR 16 18 [2] := fun d => by kernel_rfl
theorem gr17_1 : RR 17 1 [2] := fun d => by kernel_rfl
theorem gr17_9 : RR 17 9 [2] := fun d => by kernel_rfl
theorem gr17_17 : RR 17 17 [2] := fun d => by kernel_rfl
theorem gr18_0 : RR 18 0 [2] := fun d => by kernel_rfl
theorem gr18_8 : RR 18 8 [2] := fun d => by kernel_rfl
theorem gr18_16 : RR 18 16 [2] := fun d => by kernel_rfl
theorem gr19_0 : RR 19 0 [2] := fun d => by kernel_rfl
theorem gr19_7 : RR 19 7 [2] := fun d => by kernel_rfl
theorem gr19_15 : RR 19 15 [2] := fun d => by kernel_rfl
theorem gr20_1 : RR 20 1 [2] := fun d => by kernel_rfl
theorem gr20_4 : RR 20 4 [2] := fun d => by kernel_rfl
theorem gr20_7 : RR 20 7 [2] := fun d => by kernel_rfl
theorem gr20_15 : RR 20 15 [2] := fun d => by kernel_rfl
end Go.Den
