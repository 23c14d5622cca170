/-
  A part of the proof: closed runs of the law.
-/
import Derived.Test.YtpnfpdmkladmpaaGreatDoorFe0
import Derived.KernelRfl
namespace Go.Den
set_option maxRecDepth 100000
theorem gr0_8 : RR 0 8 [] := fun d => by kernel_rfl
theorem gr0_16 : RR 0 16 [] := fun d => by kernel_rfl
theorem gr1_5 : RR 1 5 [2] := fun d => by kernel_rfl
theorem gr1_13 : RR 1 13 [2] := fun d => by kernel_rfl
theorem gr1_21 : RR 1 21 [2] := fun d => by kernel_rfl
theorem gr2_3 : RR 2 3 [2] := fun d => by kernel_rfl
theorem gr2_11 : RR 2 11 [2] := fun d => by kernel_rfl
theorem gr2_19 : RR 2 19 [2] := fun d => by kernel_rfl
theorem gr3_2 : RR 3 2 [2] := fun d => by kernel_rfl
theorem gr3_10 : RR 3 10 [3] := fun d => by kernel_rfl
theorem gr3_18 : RR 3 18 [2] := fun d => by kernel_rfl
theorem gr4_1 : RR 4 1 [2] := fun d => by kernel_rfl
theorem gr4_9 : RR 4 9 [2] := fun d => by kernel_rfl
theorem gr4_17 : RR 4 17 [2] := fun d => by kernel_rfl
theorem gr4_23 : RR 4 23 [3, 3] := fun d => by kernel_rfl
theorem gr5_0 : RR 5 0 [2] := fun d => by kernel_rfl
theorem gr5_8 : RR 5 8 [2] := fun d => by kernel_rfl
theorem gr5_16 : RR 5 16 [2] := fun d => by kernel_rfl
theorem gr5_23 : RR 5 23 [3, 3] := fun d => by kernel_rfl
theorem gr6_0 : RR 6 0 [2] := fun d => by kernel_rfl
theorem gr6_7 : RR 6 7 [2] := fun d => by kernel_rfl
theorem gr6_15 : RR 6 15 [2] := fun d => by kernel_rfl
theorem gr7_1 : RR 7 1 [2] := fun d => by kernel_rfl
theorem gr7_7 : RR 7 7 [2] := fun d => by kernel_rfl
theorem gr7_15 : RR 7 15 [2] := fun d => by kernel_rfl
theorem gr8_8 : RR 8 8 [2] := fun d => by kernel_rfl
theorem gr8_16 : RR 8 16 [2] := fun d => by kernel_rfl
theorem gr9_5 : RR 9 5 [2] := fun d => by kernel_rfl
theorem gr9_13 : RR 9 13 [2] := fun d => by kernel_rfl
theorem gr9_21 : RR 9 21 [2] := fun d => by kernel_rfl
theorem gr10_3 : RR 10 3 [2] := fun d => by kernel_rfl
theorem gr10_11 : RR 10 11 [2] := fun d => by kernel_rfl
theorem gr10_19 : RR 10 19 [2] := fun d => by kernel_rfl
theorem gr11_2 : RR 11 2 [2] := fun d => by kernel_rfl
theorem gr11_10 : RR 11 10 [3] := fun d => by kernel_rfl
theorem gr11_18 : RR 11 18 [2] := fun d => by kernel_rfl
theorem gr12_1 : RR 12 1 [2] := fun d => by kernel_rfl
theorem gr12_9 : RR 12 9 [2] := fun d => by kernel_rfl
theorem gr12_17 : RR 12 17 [2] := fun d => by kernel_rfl
theorem gr13_0 : RR 13 0 [2] := fun d => by kernel_rfl
theorem gr13_8 : RR 13 8 [2] := fun d => by kernel_rfl
theorem gr13_16 : RR 13 16 [2] := fun d => by kernel_rfl
theorem gr14_0 : RR 14 0 [2] := fun d => by kernel_rfl
theorem gr14_7 : RR 14 7 [2] := fun d => by kernel_rfl
theorem gr14_15 : RR 14 15 [2] := fun d => by kernel_rfl
theorem gr15_0 : RR 15 0 [2] := fun d => by kernel_rfl
theorem gr15_7 : RR 15 7 [2] := fun d => by kernel_rfl
theorem gr15_15 : RR 15 15 [2] := fun d => by kernel_rfl
theorem gr16_0 : RR 16 0 [2] := fun d => by kernel_rfl
theorem gr16_7 : RR 16 7 [2] := fun d => by kernel_rfl
theorem gr16_15 : RR 16 15 [2] := fun d => by kernel_rfl
theorem gr17_0 : RR 17 0 [2] := fun d => by kernel_rfl
theorem gr17_7 : RR 17 7 [2] := fun d => by kernel_rfl
theorem gr17_15 : RR 17 15 [2] := fun d => by kernel_rfl
theorem gr18_7 : RR 18 7 [2] := fun d => by kernel_rfl
theorem gr18_15 : RR 18 15 [2] := fun d => by kernel_rfl
theorem gr19_6 : RR 19 6 [2] := fun d => by kernel_rfl
theorem gr19_14 : RR 19 14 [] := fun d => by kernel_rfl
theorem gr19_22 : RR 19 22 [] := fun d => by kernel_rfl
theorem gr20_13 : RR 20 13 [2] := fun d => by kernel_rfl
theorem gr20_21 : RR 20 21 [2] := fun d => by kernel_rfl
theorem gr20_23 : RR 20 23 [3, 3] := fun d => by kernel_rfl
end Go.Den
