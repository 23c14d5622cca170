/-
  A part of the proof: closed runs of the law.
-/
import Derived.Test.YtpnfpdmkladmpaaGreatDoorFe0
import Derived.KernelRfl
namespace Go.Den
set_option maxRecDepth 100000
theorem gr0_1 : RR 0 1 [] := fun d => by kernel_rfl
theorem gr0_6 : RR 0 6 [] := fun d => by kernel_rfl
theorem gr0_14 : RR 0 14 [] := fun d => by kernel_rfl
theorem gr0_22 : RR 0 22 [] := fun d => by kernel_rfl
theorem gr1_8 : RR 1 8 [2] := fun d => by kernel_rfl
theorem gr1_16 : RR 1 16 [2] := fun d => by kernel_rfl
theorem gr2_6 : RR 2 6 [2] := fun d => by kernel_rfl
theorem gr2_14 : RR 2 14 [] := fun d => by kernel_rfl
theorem gr2_22 : RR 2 22 [] := fun d => by kernel_rfl
theorem gr2_23 : RR 2 23 [3, 3] := fun d => by kernel_rfl
theorem gr3_5 : RR 3 5 [2] := fun d => by kernel_rfl
theorem gr3_13 : RR 3 13 [2] := fun d => by kernel_rfl
theorem gr3_21 : RR 3 21 [2] := fun d => by kernel_rfl
theorem gr4_4 : RR 4 4 [2] := fun d => by kernel_rfl
theorem gr4_12 : RR 4 12 [2] := fun d => by kernel_rfl
theorem gr4_20 : RR 4 20 [2] := fun d => by kernel_rfl
theorem gr5_3 : RR 5 3 [2] := fun d => by kernel_rfl
theorem gr5_11 : RR 5 11 [2] := fun d => by kernel_rfl
theorem gr5_19 : RR 5 19 [2] := fun d => by kernel_rfl
theorem gr6_2 : RR 6 2 [2] := fun d => by kernel_rfl
theorem gr6_10 : RR 6 10 [3] := fun d => by kernel_rfl
theorem gr6_18 : RR 6 18 [2] := fun d => by kernel_rfl
theorem gr7_9 : RR 7 9 [2] := fun d => by kernel_rfl
theorem gr7_17 : RR 7 17 [2] := fun d => by kernel_rfl
theorem gr7_23 : RR 7 23 [3, 3] := fun d => by kernel_rfl
theorem gr8_0 : RR 8 0 [2] := fun d => by kernel_rfl
theorem gr8_5 : RR 8 5 [2] := fun d => by kernel_rfl
theorem gr8_13 : RR 8 13 [2] := fun d => by kernel_rfl
theorem gr8_21 : RR 8 21 [2] := fun d => by kernel_rfl
theorem gr9_7 : RR 9 7 [2] := fun d => by kernel_rfl
theorem gr9_15 : RR 9 15 [2] := fun d => by kernel_rfl
theorem gr10_5 : RR 10 5 [2] := fun d => by kernel_rfl
theorem gr10_13 : RR 10 13 [2] := fun d => by kernel_rfl
theorem gr10_21 : RR 10 21 [2] := fun d => by kernel_rfl
theorem gr11_4 : RR 11 4 [2] := fun d => by kernel_rfl
theorem gr11_12 : RR 11 12 [2] := fun d => by kernel_rfl
theorem gr11_20 : RR 11 20 [2] := fun d => by kernel_rfl
theorem gr12_5 : RR 12 5 [2] := fun d => by kernel_rfl
theorem gr12_13 : RR 12 13 [2] := fun d => by kernel_rfl
theorem gr12_19 : RR 12 19 [2] := fun d => by kernel_rfl
theorem gr13_4 : RR 13 4 [2] := fun d => by kernel_rfl
theorem gr13_12 : RR 13 12 [2] := fun d => by kernel_rfl
theorem gr13_20 : RR 13 20 [2] := fun d => by kernel_rfl
theorem gr14_3 : RR 14 3 [2] := fun d => by kernel_rfl
theorem gr14_11 : RR 14 11 [2] := fun d => by kernel_rfl
theorem gr14_19 : RR 14 19 [2] := fun d => by kernel_rfl
theorem gr15_2 : RR 15 2 [2] := fun d => by kernel_rfl
theorem gr15_10 : RR 15 10 [3] := fun d => by kernel_rfl
theorem gr15_18 : RR 15 18 [2] := fun d => by kernel_rfl
theorem gr16_9 : RR 16 9 [2] := fun d => by kernel_rfl
theorem gr16_17 : RR 16 17 [2] := fun d => by kernel_rfl
theorem gr17_6 : RR 17 6 [2] := fun d => by kernel_rfl
theorem gr17_14 : RR 17 14 [] := fun d => by kernel_rfl
theorem gr17_22 : RR 17 22 [] := fun d => by kernel_rfl
theorem gr18_5 : RR 18 5 [2] := fun d => by kernel_rfl
theorem gr18_13 : RR 18 13 [2] := fun d => by kernel_rfl
theorem gr18_21 : RR 18 21 [2] := fun d => by kernel_rfl
theorem gr18_23 : RR 18 23 [3, 3] := fun d => by kernel_rfl
theorem gr19_4 : RR 19 4 [2] := fun d => by kernel_rfl
theorem gr19_12 : RR 19 12 [2] := fun d => by kernel_rfl
theorem gr19_20 : RR 19 20 [2] := fun d => by kernel_rfl
theorem gr20_11 : RR 20 11 [2] := fun d => by kernel_rfl
theorem gr20_19 : RR 20 19 [2] := fun d => by kernel_rfl
end Go.Den
