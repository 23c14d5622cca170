/-
  A part of the proof: closed runs of the law.
-/
import Derived.Test.YtpnfpdmkladmpaaGreatDoorFe0
import Derived.KernelRfl
namespace Go.Den
set_option maxRecDepth 100000
theorem gr0_3 : RR 0 3 [] := fun d => by kernel_rfl
theorem gr0_11 : RR 0 11 [] := fun d => by kernel_rfl
theorem gr0_19 : RR 0 19 [] := fun d => by kernel_rfl
theorem gr1_2 : RR 1 2 [2] := fun d => by kernel_rfl
theorem gr1_10 : RR 1 10 [3] := fun d => by kernel_rfl
theorem gr1_18 : RR 1 18 [2] := fun d => by kernel_rfl
theorem gr2_1 : RR 2 1 [2] := fun d => by kernel_rfl
theorem gr2_9 : RR 2 9 [2] := fun d => by kernel_rfl
theorem gr2_17 : RR 2 17 [2] := fun d => by kernel_rfl
theorem gr3_1 : RR 3 1 [2] := fun d => by kernel_rfl
theorem gr3_8 : RR 3 8 [2] := fun d => by kernel_rfl
theorem gr3_16 : RR 3 16 [2] := fun d => by kernel_rfl
theorem gr4_8 : RR 4 8 [2] := fun d => by kernel_rfl
theorem gr4_16 : RR 4 16 [2] := fun d => by kernel_rfl
theorem gr5_6 : RR 5 6 [2] := fun d => by kernel_rfl
theorem gr5_14 : RR 5 14 [] := fun d => by kernel_rfl
theorem gr5_22 : RR 5 22 [] := fun d => by kernel_rfl
theorem gr6_5 : RR 6 5 [2] := fun d => by kernel_rfl
theorem gr6_13 : RR 6 13 [2] := fun d => by kernel_rfl
theorem gr6_21 : RR 6 21 [2] := fun d => by kernel_rfl
theorem gr7_4 : RR 7 4 [2] := fun d => by kernel_rfl
theorem gr7_12 : RR 7 12 [2] := fun d => by kernel_rfl
theorem gr7_20 : RR 7 20 [2] := fun d => by kernel_rfl
theorem gr8_3 : RR 8 3 [2] := fun d => by kernel_rfl
theorem gr8_11 : RR 8 11 [2] := fun d => by kernel_rfl
theorem gr8_19 : RR 8 19 [2] := fun d => by kernel_rfl
theorem gr9_2 : RR 9 2 [2] := fun d => by kernel_rfl
theorem gr9_10 : RR 9 10 [3] := fun d => by kernel_rfl
theorem gr9_18 : RR 9 18 [2] := fun d => by kernel_rfl
theorem gr10_1 : RR 10 1 [2] := fun d => by kernel_rfl
theorem gr10_9 : RR 10 9 [2] := fun d => by kernel_rfl
theorem gr10_17 : RR 10 17 [2] := fun d => by kernel_rfl
theorem gr11_1 : RR 11 1 [2] := fun d => by kernel_rfl
theorem gr11_8 : RR 11 8 [2] := fun d => by kernel_rfl
theorem gr11_16 : RR 11 16 [2] := fun d => by kernel_rfl
theorem gr12_8 : RR 12 8 [2] := fun d => by kernel_rfl
theorem gr12_16 : RR 12 16 [2] := fun d => by kernel_rfl
theorem gr12_23 : RR 12 23 [3, 3] := fun d => by kernel_rfl
theorem gr13_6 : RR 13 6 [2] := fun d => by kernel_rfl
theorem gr13_14 : RR 13 14 [] := fun d => by kernel_rfl
theorem gr13_22 : RR 13 22 [] := fun d => by kernel_rfl
theorem gr13_23 : RR 13 23 [3, 3] := fun d => by kernel_rfl
theorem gr14_5 : RR 14 5 [2] := fun d => by kernel_rfl
theorem gr14_13 : RR 14 13 [2] := fun d => by kernel_rfl
theorem gr14_21 : RR 14 21 [2] := fun d => by kernel_rfl
theorem gr15_4 : RR 15 4 [2] := fun d => by kernel_rfl
theorem gr15_12 : RR 15 12 [2] := fun d => by kernel_rfl
theorem gr15_20 : RR 15 20 [2] := fun d => by kernel_rfl
theorem gr16_3 : RR 16 3 [2] := fun d => by kernel_rfl
theorem gr16_11 : RR 16 11 [2] := fun d => by kernel_rfl
theorem gr16_19 : RR 16 19 [2] := fun d => by kernel_rfl
theorem gr17_2 : RR 17 2 [2] := fun d => by kernel_rfl
theorem gr17_10 : RR 17 10 [3] := fun d => by kernel_rfl
theorem gr17_18 : RR 17 18 [2] := fun d => by kernel_rfl
theorem gr18_1 : RR 18 1 [2] := fun d => by kernel_rfl
theorem gr18_9 : RR 18 9 [2] := fun d => by kernel_rfl
theorem gr18_17 : RR 18 17 [2] := fun d => by kernel_rfl
theorem gr19_1 : RR 19 1 [2] := fun d => by kernel_rfl
theorem gr19_8 : RR 19 8 [2] := fun d => by kernel_rfl
theorem gr19_16 : RR 19 16 [2] := fun d => by kernel_rfl
theorem gr20_2 : RR 20 2 [2] := fun d => by kernel_rfl
theorem gr20_5 : RR 20 5 [2] := fun d => by kernel_rfl
theorem gr20_8 : RR 20 8 [2] := fun d => by kernel_rfl
theorem gr20_16 : RR 20 16 [2] := fun d => by kernel_rfl
end Go.Den
