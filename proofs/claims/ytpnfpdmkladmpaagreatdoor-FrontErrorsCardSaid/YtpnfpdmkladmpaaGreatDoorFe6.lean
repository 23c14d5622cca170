/-
  A part of the proof: closed runs of the law.
-/
import Derived.Test.YtpnfpdmkladmpaaGreatDoorFe0
import Derived.KernelRfl
namespace Go.Den
set_option maxRecDepth 100000
theorem gr0_4 : RR 0 4 [] := fun d => by kernel_rfl
theorem gr0_12 : RR 0 12 [] := fun d => by kernel_rfl
theorem gr0_20 : RR 0 20 [] := fun d => by kernel_rfl
theorem gr1_3 : RR 1 3 [2] := fun d => by kernel_rfl
theorem gr1_11 : RR 1 11 [2] := fun d => by kernel_rfl
theorem gr1_19 : RR 1 19 [2] := fun d => by kernel_rfl
theorem gr2_2 : RR 2 2 [2] := fun d => by kernel_rfl
theorem gr2_10 : RR 2 10 [3] := fun d => by kernel_rfl
theorem gr2_18 : RR 2 18 [2] := fun d => by kernel_rfl
theorem gr3_9 : RR 3 9 [2] := fun d => by kernel_rfl
theorem gr3_17 : RR 3 17 [2] := fun d => by kernel_rfl
theorem gr4_0 : RR 4 0 [2] := fun d => by kernel_rfl
theorem gr4_6 : RR 4 6 [2] := fun d => by kernel_rfl
theorem gr4_14 : RR 4 14 [] := fun d => by kernel_rfl
theorem gr4_22 : RR 4 22 [] := fun d => by kernel_rfl
theorem gr5_7 : RR 5 7 [2] := fun d => by kernel_rfl
theorem gr5_15 : RR 5 15 [2] := fun d => by kernel_rfl
theorem gr6_6 : RR 6 6 [2] := fun d => by kernel_rfl
theorem gr6_14 : RR 6 14 [] := fun d => by kernel_rfl
theorem gr6_22 : RR 6 22 [] := fun d => by kernel_rfl
theorem gr7_5 : RR 7 5 [2] := fun d => by kernel_rfl
theorem gr7_13 : RR 7 13 [2] := fun d => by kernel_rfl
theorem gr7_21 : RR 7 21 [2] := fun d => by kernel_rfl
theorem gr8_4 : RR 8 4 [2] := fun d => by kernel_rfl
theorem gr8_12 : RR 8 12 [2] := fun d => by kernel_rfl
theorem gr8_20 : RR 8 20 [2] := fun d => by kernel_rfl
theorem gr9_3 : RR 9 3 [2] := fun d => by kernel_rfl
theorem gr9_11 : RR 9 11 [2] := fun d => by kernel_rfl
theorem gr9_19 : RR 9 19 [2] := fun d => by kernel_rfl
theorem gr10_2 : RR 10 2 [2] := fun d => by kernel_rfl
theorem gr10_10 : RR 10 10 [3] := fun d => by kernel_rfl
theorem gr10_18 : RR 10 18 [2] := fun d => by kernel_rfl
theorem gr10_23 : RR 10 23 [3, 3] := fun d => by kernel_rfl
theorem gr11_9 : RR 11 9 [2] := fun d => by kernel_rfl
theorem gr11_17 : RR 11 17 [2] := fun d => by kernel_rfl
theorem gr12_0 : RR 12 0 [2] := fun d => by kernel_rfl
theorem gr12_6 : RR 12 6 [2] := fun d => by kernel_rfl
theorem gr12_14 : RR 12 14 [] := fun d => by kernel_rfl
theorem gr12_22 : RR 12 22 [] := fun d => by kernel_rfl
theorem gr13_7 : RR 13 7 [2] := fun d => by kernel_rfl
theorem gr13_15 : RR 13 15 [2] := fun d => by kernel_rfl
theorem gr14_6 : RR 14 6 [2] := fun d => by kernel_rfl
theorem gr14_14 : RR 14 14 [] := fun d => by kernel_rfl
theorem gr14_22 : RR 14 22 [] := fun d => by kernel_rfl
theorem gr15_5 : RR 15 5 [2] := fun d => by kernel_rfl
theorem gr15_13 : RR 15 13 [2] := fun d => by kernel_rfl
theorem gr15_21 : RR 15 21 [2] := fun d => by kernel_rfl
theorem gr15_23 : RR 15 23 [3, 3] := fun d => by kernel_rfl
theorem gr16_4 : RR 16 4 [2] := fun d => by kernel_rfl
theorem gr16_12 : RR 16 12 [2] := fun d => by kernel_rfl
theorem gr16_20 : RR 16 20 [2] := fun d => by kernel_rfl
theorem gr17_3 : RR 17 3 [2] := fun d => by kernel_rfl
theorem gr17_11 : RR 17 11 [2] := fun d => by kernel_rfl
theorem gr17_19 : RR 17 19 [2] := fun d => by kernel_rfl
theorem gr18_2 : RR 18 2 [2] := fun d => by kernel_rfl
theorem gr18_10 : RR 18 10 [3] := fun d => by kernel_rfl
theorem gr18_18 : RR 18 18 [2] := fun d => by kernel_rfl
theorem gr19_9 : RR 19 9 [2] := fun d => by kernel_rfl
theorem gr19_17 : RR 19 17 [2] := fun d => by kernel_rfl
theorem gr20_0 : RR 20 0 [2] := fun d => by kernel_rfl
theorem gr20_3 : RR 20 3 [2] := fun d => by kernel_rfl
theorem gr20_6 : RR 20 6 [2] := fun d => by kernel_rfl
theorem gr20_14 : RR 20 14 [] := fun d => by kernel_rfl
theorem gr20_22 : RR 20 22 [] := fun d => by kernel_rfl
end Go.Den
