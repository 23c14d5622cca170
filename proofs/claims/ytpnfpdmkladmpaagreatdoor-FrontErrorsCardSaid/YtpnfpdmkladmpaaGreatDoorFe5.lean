/-
  A part of the proof: closed runs of the law.
-/
import Derived.Test.YtpnfpdmkladmpaaGreatDoorFe0
import Derived.KernelRfl
namespace Go.Den
set_option maxRecDepth 100000
theorem gr0_0 : RR 0 0 [] := fun d => by kernel_rfl
theorem gr0_5 : RR 0 5 [] := fun d => by kernel_rfl
theorem gr0_13 : RR 0 13 [] := fun d => by kernel_rfl
theorem gr0_21 : RR 0 21 [] := fun d => by kernel_rfl
theorem gr0_23 : RR 0 23 [2, 2] := fun d => by kernel_rfl
theorem gr1_7 : RR 1 7 [2] := fun d => by kernel_rfl
theorem gr1_15 : RR 1 15 [2] := fun d => by kernel_rfl
theorem gr2_5 : RR 2 5 [2] := fun d => by kernel_rfl
theorem gr2_13 : RR 2 13 [2] := fun d => by kernel_rfl
theorem gr2_21 : RR 2 21 [2] := fun d => by kernel_rfl
theorem gr3_4 : RR 3 4 [2] := fun d => by kernel_rfl
theorem gr3_12 : RR 3 12 [2] := fun d => by kernel_rfl
theorem gr3_20 : RR 3 20 [2] := fun d => by kernel_rfl
theorem gr4_3 : RR 4 3 [2] := fun d => by kernel_rfl
theorem gr4_11 : RR 4 11 [2] := fun d => by kernel_rfl
theorem gr4_19 : RR 4 19 [2] := fun d => by kernel_rfl
theorem gr5_2 : RR 5 2 [2] := fun d => by kernel_rfl
theorem gr5_10 : RR 5 10 [3] := fun d => by kernel_rfl
theorem gr5_18 : RR 5 18 [2] := fun d => by kernel_rfl
theorem gr6_9 : RR 6 9 [2] := fun d => by kernel_rfl
theorem gr6_17 : RR 6 17 [2] := fun d => by kernel_rfl
theorem gr7_0 : RR 7 0 [2] := fun d => by kernel_rfl
theorem gr7_6 : RR 7 6 [2] := fun d => by kernel_rfl
theorem gr7_14 : RR 7 14 [] := fun d => by kernel_rfl
theorem gr7_22 : RR 7 22 [] := fun d => by kernel_rfl
theorem gr8_7 : RR 8 7 [2] := fun d => by kernel_rfl
theorem gr8_15 : RR 8 15 [2] := fun d => by kernel_rfl
theorem gr9_0 : RR 9 0 [2] := fun d => by kernel_rfl
theorem gr9_4 : RR 9 4 [2] := fun d => by kernel_rfl
theorem gr9_12 : RR 9 12 [2] := fun d => by kernel_rfl
theorem gr9_20 : RR 9 20 [2] := fun d => by kernel_rfl
theorem gr9_23 : RR 9 23 [3, 3] := fun d => by kernel_rfl
theorem gr10_7 : RR 10 7 [2] := fun d => by kernel_rfl
theorem gr10_15 : RR 10 15 [2] := fun d => by kernel_rfl
theorem gr11_6 : RR 11 6 [2] := fun d => by kernel_rfl
theorem gr11_14 : RR 11 14 [] := fun d => by kernel_rfl
theorem gr11_22 : RR 11 22 [] := fun d => by kernel_rfl
theorem gr12_4 : RR 12 4 [2] := fun d => by kernel_rfl
theorem gr12_12 : RR 12 12 [2] := fun d => by kernel_rfl
theorem gr12_21 : RR 12 21 [2] := fun d => by kernel_rfl
theorem gr13_3 : RR 13 3 [2] := fun d => by kernel_rfl
theorem gr13_11 : RR 13 11 [2] := fun d => by kernel_rfl
theorem gr13_19 : RR 13 19 [2] := fun d => by kernel_rfl
theorem gr14_10 : RR 14 10 [3] := fun d => by kernel_rfl
theorem gr14_18 : RR 14 18 [2] := fun d => by kernel_rfl
theorem gr15_6 : RR 15 6 [2] := fun d => by kernel_rfl
theorem gr15_14 : RR 15 14 [] := fun d => by kernel_rfl
theorem gr15_22 : RR 15 22 [] := fun d => by kernel_rfl
theorem gr16_5 : RR 16 5 [2] := fun d => by kernel_rfl
theorem gr16_13 : RR 16 13 [2] := fun d => by kernel_rfl
theorem gr16_21 : RR 16 21 [2] := fun d => by kernel_rfl
theorem gr16_23 : RR 16 23 [3, 3] := fun d => by kernel_rfl
theorem gr17_4 : RR 17 4 [2] := fun d => by kernel_rfl
theorem gr17_12 : RR 17 12 [2] := fun d => by kernel_rfl
theorem gr17_20 : RR 17 20 [2] := fun d => by kernel_rfl
theorem gr18_3 : RR 18 3 [2] := fun d => by kernel_rfl
theorem gr18_11 : RR 18 11 [2] := fun d => by kernel_rfl
theorem gr18_19 : RR 18 19 [2] := fun d => by kernel_rfl
theorem gr19_2 : RR 19 2 [2] := fun d => by kernel_rfl
theorem gr19_10 : RR 19 10 [3] := fun d => by kernel_rfl
theorem gr19_18 : RR 19 18 [2] := fun d => by kernel_rfl
theorem gr20_9 : RR 20 9 [2] := fun d => by kernel_rfl
theorem gr20_17 : RR 20 17 [2] := fun d => by kernel_rfl
end Go.Den
