/-
  A part of the proof: closed runs of the law.
-/
import Derived.Test.YtpnfpdmkladmpaaGreatDoorTm0
import Derived.KernelRfl
namespace Go.Den
set_option maxRecDepth 100000
theorem gr0_6 : RR 0 6 [] := fun d => by kernel_rfl
theorem gr1_0 : RR 1 0 [] := fun d => by kernel_rfl
theorem gr1_6 : RR 1 6 [] := fun d => by kernel_rfl
theorem gr2_0 : RR 2 0 [] := fun d => by kernel_rfl
theorem gr2_1 : RR 2 1 [2, 2] := fun d => by kernel_rfl
theorem gr2_3 : RR 2 3 [] := fun d => by kernel_rfl
theorem gr3_1 : RR 3 1 [2, 2] := fun d => by kernel_rfl
theorem gr3_3 : RR 3 3 [] := fun d => by kernel_rfl
theorem gr4_6 : RR 4 6 [] := fun d => by kernel_rfl
theorem gr5_0 : RR 5 0 [] := fun d => by kernel_rfl
theorem gr5_6 : RR 5 6 [] := fun d => by kernel_rfl
theorem gr6_0 : RR 6 0 [] := fun d => by kernel_rfl
theorem gr6_1 : RR 6 1 [2, 2] := fun d => by kernel_rfl
theorem gr6_3 : RR 6 3 [] := fun d => by kernel_rfl
theorem gr7_1 : RR 7 1 [2, 2] := fun d => by kernel_rfl
theorem gr7_3 : RR 7 3 [] := fun d => by kernel_rfl
theorem gr8_6 : RR 8 6 [] := fun d => by kernel_rfl
theorem gr9_0 : RR 9 0 [] := fun d => by kernel_rfl
theorem gr9_6 : RR 9 6 [] := fun d => by kernel_rfl
theorem gr10_0 : RR 10 0 [] := fun d => by kernel_rfl
theorem gr10_1 : RR 10 1 [2, 2] := fun d => by kernel_rfl
theorem gr10_3 : RR 10 3 [] := fun d => by kernel_rfl
theorem gr11_1 : RR 11 1 [2, 2] := fun d => by kernel_rfl
theorem gr11_3 : RR 11 3 [] := fun d => by kernel_rfl
theorem gr12_6 : RR 12 6 [] := fun d => by kernel_rfl
theorem gr13_0 : RR 13 0 [] := fun d => by kernel_rfl
theorem gr13_6 : RR 13 6 [] := fun d => by kernel_rfl
theorem gr14_0 : RR 14 0 [] := fun d => by kernel_rfl
theorem gr14_1 : RR 14 1 [2, 2] := fun d => by kernel_rfl
theorem gr14_3 : RR 14 3 [] := fun d => by kernel_rfl
theorem gr15_1 : RR 15 1 [2, 2] := fun d => by kernel_rfl
theorem gr15_3 : RR 15 3 [] := fun d => by kernel_rfl
theorem gr16_6 : RR 16 6 [] := fun d => by kernel_rfl
theorem gr17_0 : RR 17 0 [] := fun d => by kernel_rfl
theorem gr17_6 : RR 17 6 [] := fun d => by kernel_rfl
theorem gr18_0 : RR 18 0 [] := fun d => by kernel_rfl
theorem gr18_1 : RR 18 1 [2, 2] := fun d => by kernel_rfl
theorem gr18_3 : RR 18 3 [] := fun d => by kernel_rfl
theorem gr19_1 : RR 19 1 [2, 2] := fun d => by kernel_rfl
theorem gr19_3 : RR 19 3 [] := fun d => by kernel_rfl
theorem gr20_0 : RR 20 0 [] := fun d => by kernel_rfl
theorem gr20_6 : RR 20 6 [] := fun d => by kernel_rfl
end Go.Den
