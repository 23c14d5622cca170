/-
  A part of the proof: closed runs of the law.
-/
import Derived.Test.YtpnfpdmkladmpaaGreatDoorFe0
import Derived.KernelRfl
namespace Go.Den
set_option maxRecDepth 100000
theorem gr0_9 : RR 0 9 [] := fun d => by kernel_rfl
theorem gr0_17 : RR 0 17 [] := fun d => by kernel_rfl
theorem gr1_6 : RR 1 6 [2] := fun d => by kernel_rfl
theorem gr1_14 : RR 1 14 [] := fun d => by kernel_rfl
theorem gr1_22 : RR 1 22 [] := fun d => by kernel_rfl
theorem gr2_4 : RR 2 4 [2] := fun d => by kernel_rfl
theorem gr2_12 : RR 2 12 [2] := fun d => by kernel_rfl
theorem gr2_20 : RR 2 20 [2] := fun d => by kernel_rfl
theorem gr3_3 : RR 3 3 [2] := fun d => by kernel_rfl
theorem gr3_11 : RR 3 11 [2] := fun d => by kernel_rfl
theorem gr3_19 : RR 3 19 [2] := fun d => by kernel_rfl
theorem gr3_23 : RR 3 23 [3, 3] := fun d => by kernel_rfl
theorem gr4_2 : RR 4 2 [2] := fun d => by kernel_rfl
theorem gr4_10 : RR 4 10 [3] := fun d => by kernel_rfl
theorem gr4_18 : RR 4 18 [2] := fun d => by kernel_rfl
theorem gr5_1 : RR 5 1 [2] := fun d => by kernel_rfl
theorem gr5_9 : RR 5 9 [2] := fun d => by kernel_rfl
theorem gr5_17 : RR 5 17 [2] := fun d => by kernel_rfl
theorem gr6_1 : RR 6 1 [2] := fun d => by kernel_rfl
theorem gr6_8 : RR 6 8 [2] := fun d => by kernel_rfl
theorem gr6_16 : RR 6 16 [2] := fun d => by kernel_rfl
theorem gr6_23 : RR 6 23 [3, 3] := fun d => by kernel_rfl
theorem gr7_2 : RR 7 2 [2] := fun d => by kernel_rfl
theorem gr7_8 : RR 7 8 [2] := fun d => by kernel_rfl
theorem gr7_16 : RR 7 16 [2] := fun d => by kernel_rfl
theorem gr8_9 : RR 8 9 [2] := fun d => by kernel_rfl
theorem gr8_17 : RR 8 17 [2] := fun d => by kernel_rfl
theorem gr9_6 : RR 9 6 [2] := fun d => by kernel_rfl
theorem gr9_14 : RR 9 14 [] := fun d => by kernel_rfl
theorem gr9_22 : RR 9 22 [] := fun d => by kernel_rfl
theorem gr10_4 : RR 10 4 [2] := fun d => by kernel_rfl
theorem gr10_12 : RR 10 12 [2] := fun d => by kernel_rfl
theorem gr10_20 : RR 10 20 [2] := fun d => by kernel_rfl
theorem gr11_3 : RR 11 3 [2] := fun d => by kernel_rfl
theorem gr11_11 : RR 11 11 [2] := fun d => by kernel_rfl
theorem gr11_19 : RR 11 19 [2] := fun d => by kernel_rfl
theorem gr12_2 : RR 12 2 [2] := fun d => by kernel_rfl
theorem gr12_10 : RR 12 10 [3] := fun d => by kernel_rfl
theorem gr12_18 : RR 12 18 [2] := fun d => by kernel_rfl
theorem gr13_1 : RR 13 1 [2] := fun d => by kernel_rfl
theorem gr13_9 : RR 13 9 [2] := fun d => by kernel_rfl
theorem gr13_17 : RR 13 17 [2] := fun d => by kernel_rfl
theorem gr14_1 : RR 14 1 [2] := fun d => by kernel_rfl
theorem gr14_8 : RR 14 8 [2] := fun d => by kernel_rfl
theorem gr14_16 : RR 14 16 [2] := fun d => by kernel_rfl
theorem gr15_1 : RR 15 1 [2] := fun d => by kernel_rfl
theorem gr15_8 : RR 15 8 [2] := fun d => by kernel_rfl
theorem gr15_16 : RR 15 16 [2] := fun d => by kernel_rfl
theorem gr16_1 : RR 16 1 [2] := fun d => by kernel_rfl
theorem gr16_8 : RR 16 8 [2] := fun d => by kernel_rfl
theorem gr16_16 : RR 16 16 [2] := fun d => by kernel_rfl
theorem gr17_8 : RR 17 8 [2] := fun d => by kernel_rfl
theorem gr17_16 : RR 17 16 [2] := fun d => by kernel_rfl
theorem gr18_6 : RR 18 6 [2] := fun d => by kernel_rfl
theorem gr18_14 : RR 18 14 [] := fun d => by kernel_rfl
theorem gr18_22 : RR 18 22 [] := fun d => by kernel_rfl
theorem gr19_5 : RR 19 5 [2] := fun d => by kernel_rfl
theorem gr19_13 : RR 19 13 [2] := fun d => by kernel_rfl
theorem gr19_21 : RR 19 21 [2] := fun d => by kernel_rfl
theorem gr19_23 : RR 19 23 [3, 3] := fun d => by kernel_rfl
theorem gr20_12 : RR 20 12 [2] := fun d => by kernel_rfl
theorem gr20_20 : RR 20 20 [2] := fun d => by kernel_rfl
end Go.Den
