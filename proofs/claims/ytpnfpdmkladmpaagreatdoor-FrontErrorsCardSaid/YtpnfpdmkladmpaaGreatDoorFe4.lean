/-
  A part of the proof: closed runs of the law.
-/
import Derived.Test.YtpnfpdmkladmpaaGreatDoorFe0
import Derived.KernelRfl
namespace Go.Den
set_option maxRecDepth 100000
theorem gr0_7 : RR 0 7 [] := fun d => by kernel_rfl
theorem gr0_15 : RR 0 15 [] := fun d => by kernel_rfl
theorem gr1_0 : RR 1 0 [2] := fun d => by kernel_rfl
theorem gr1_4 : RR 1 4 [2] := fun d => by kernel_rfl
theorem gr1_12 : RR 1 12 [2] := fun d => by kernel_rfl
theorem gr1_20 : RR 1 20 [2] := fun d => by kernel_rfl
theorem gr1_23 : RR 1 23 [3, 3] := fun d => by kernel_rfl
theorem gr2_7 : RR 2 7 [2] := fun d => by kernel_rfl
theorem gr2_15 : RR 2 15 [2] := fun d => by kernel_rfl
theorem gr3_6 : RR 3 6 [2] := fun d => by kernel_rfl
theorem gr3_14 : RR 3 14 [] := fun d => by kernel_rfl
theorem gr3_22 : RR 3 22 [] := fun d => by kernel_rfl
theorem gr4_5 : RR 4 5 [2] := fun d => by kernel_rfl
theorem gr4_13 : RR 4 13 [2] := fun d => by kernel_rfl
theorem gr4_21 : RR 4 21 [2] := fun d => by kernel_rfl
theorem gr5_4 : RR 5 4 [2] := fun d => by kernel_rfl
theorem gr5_12 : RR 5 12 [2] := fun d => by kernel_rfl
theorem gr5_20 : RR 5 20 [2] := fun d => by kernel_rfl
theorem gr6_3 : RR 6 3 [2] := fun d => by kernel_rfl
theorem gr6_11 : RR 6 11 [2] := fun d => by kernel_rfl
theorem gr6_19 : RR 6 19 [2] := fun d => by kernel_rfl
theorem gr7_10 : RR 7 10 [3] := fun d => by kernel_rfl
theorem gr7_18 : RR 7 18 [2] := fun d => by kernel_rfl
theorem gr8_1 : RR 8 1 [2] := fun d => by kernel_rfl
theorem gr8_6 : RR 8 6 [2] := fun d => by kernel_rfl
theorem gr8_14 : RR 8 14 [] := fun d => by kernel_rfl
theorem gr8_22 : RR 8 22 [] := fun d => by kernel_rfl
theorem gr8_23 : RR 8 23 [3, 3] := fun d => by kernel_rfl
theorem gr9_8 : RR 9 8 [2] := fun d => by kernel_rfl
theorem gr9_16 : RR 9 16 [2] := fun d => by kernel_rfl
theorem gr10_6 : RR 10 6 [2] := fun d => by kernel_rfl
theorem gr10_14 : RR 10 14 [] := fun d => by kernel_rfl
theorem gr10_22 : RR 10 22 [] := fun d => by kernel_rfl
theorem gr11_5 : RR 11 5 [2] := fun d => by kernel_rfl
theorem gr11_13 : RR 11 13 [2] := fun d => by kernel_rfl
theorem gr11_21 : RR 11 21 [2] := fun d => by kernel_rfl
theorem gr12_3 : RR 12 3 [2] := fun d => by kernel_rfl
theorem gr12_11 : RR 12 11 [2] := fun d => by kernel_rfl
theorem gr12_20 : RR 12 20 [2] := fun d => by kernel_rfl
theorem gr13_2 : RR 13 2 [2] := fun d => by kernel_rfl
theorem gr13_10 : RR 13 10 [3] := fun d => by kernel_rfl
theorem gr13_18 : RR 13 18 [2] := fun d => by kernel_rfl
theorem gr14_2 : RR 14 2 [2] := fun d => by kernel_rfl
theorem gr14_9 : RR 14 9 [2] := fun d => by kernel_rfl
theorem gr14_17 : RR 14 17 [2] := fun d => by kernel_rfl
theorem gr15_9 : RR 15 9 [2] := fun d => by kernel_rfl
theorem gr15_17 : RR 15 17 [2] := fun d => by kernel_rfl
theorem gr16_6 : RR 16 6 [2] := fun d => by kernel_rfl
theorem gr16_14 : RR 16 14 [] := fun d => by kernel_rfl
theorem gr16_22 : RR 16 22 [] := fun d => by kernel_rfl
theorem gr17_5 : RR 17 5 [2] := fun d => by kernel_rfl
theorem gr17_13 : RR 17 13 [2] := fun d => by kernel_rfl
theorem gr17_21 : RR 17 21 [2] := fun d => by kernel_rfl
theorem gr17_23 : RR 17 23 [3, 3] := fun d => by kernel_rfl
theorem gr18_4 : RR 18 4 [2] := fun d => by kernel_rfl
theorem gr18_12 : RR 18 12 [2] := fun d => by kernel_rfl
theorem gr18_20 : RR 18 20 [2] := fun d => by kernel_rfl
theorem gr19_3 : RR 19 3 [2] := fun d => by kernel_rfl
theorem gr19_11 : RR 19 11 [2] := fun d => by kernel_rfl
theorem gr19_19 : RR 19 19 [2] := fun d => by kernel_rfl
theorem gr20_10 : RR 20 10 [3] := fun d => by kernel_rfl
theorem gr20_18 : RR 20 18 [2] := fun d => by kernel_rfl
end Go.Den
