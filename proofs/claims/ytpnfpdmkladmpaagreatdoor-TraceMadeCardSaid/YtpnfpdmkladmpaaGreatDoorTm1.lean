/-
  A part of the proof: closed runs of the law.
-/
import Derived.Test.YtpnfpdmkladmpaaGreatDoorTm0
import Derived.KernelRfl
namespace Go.Den
set_option maxRecDepth 100000
theorem gr0_0 : RR 0 0 [] := fun d => by kernel_rfl
theorem gr0_1 : RR 0 1 [2, 2] := fun d => by kernel_rfl
theorem gr0_3 : RR 0 3 [] := fun d => by kernel_rfl
theorem gr1_1 : RR 1 1 [2, 2] := fun d => by kernel_rfl
theorem gr1_3 : RR 1 3 [] := fun d => by kernel_rfl
theorem gr2_6 : RR 2 6 [] := fun d => by kernel_rfl
theorem gr3_0 : RR 3 0 [] := fun d => by kernel_rfl
theorem gr3_6 : RR 3 6 [] := fun d => by kernel_rfl
theorem gr4_0 : RR 4 0 [] := fun d => by kernel_rfl
theorem gr4_1 : RR 4 1 [2, 2] := fun d => by kernel_rfl
theorem gr4_3 : RR 4 3 [] := fun d => by kernel_rfl
theorem gr5_1 : RR 5 1 [2, 2] := fun d => by kernel_rfl
theorem gr5_3 : RR 5 3 [] := fun d => by kernel_rfl
theorem gr6_6 : RR 6 6 [] := fun d => by kernel_rfl
theorem gr7_0 : RR 7 0 [] := fun d => by kernel_rfl
theorem gr7_6 : RR 7 6 [] := fun d => by kernel_rfl
theorem gr8_0 : RR 8 0 [] := fun d => by kernel_rfl
theorem gr8_1 : RR 8 1 [2, 2] := fun d => by kernel_rfl
theorem gr8_3 : RR 8 3 [] := fun d => by kernel_rfl
theorem gr9_1 : RR 9 1 [2, 2] := fun d => by kernel_rfl
theorem gr9_3 : RR 9 3 [] := fun d => by kernel_rfl
theorem gr10_6 : RR 10 6 [] := fun d => by kernel_rfl
theorem gr11_0 : RR 11 0 [] := fun d => by kernel_rfl
theorem gr11_6 : RR 11 6 [] := fun d => by kernel_rfl
theorem gr12_0 : RR 12 0 [] := fun d => by kernel_rfl
theorem gr12_1 : RR 12 1 [2, 2] := fun d => by kernel_rfl
theorem gr12_3 : RR 12 3 [] := fun d => by kernel_rfl
theorem gr13_1 : RR 13 1 [2, 2] := fun d => by kernel_rfl
theorem gr13_3 : RR 13 3 [] := fun d => by kernel_rfl
theorem gr14_6 : RR 14 6 [] := fun d => by kernel_rfl
theorem gr15_0 : RR 15 0 [] := fun d => by kernel_rfl
theorem gr15_6 : RR 15 6 [] := fun d => by kernel_rfl
theorem gr16_0 : RR 16 0 [] := fun d => by kernel_rfl
theorem gr16_1 : RR 16 1 [2, 2] := fun d => by kernel_rfl
theorem gr16_3 : RR 16 3 [] := fun d => by kernel_rfl
theorem gr17_1 : RR 17 1 [2, 2] := fun d => by kernel_rfl
theorem gr17_3 : RR 17 3 [] := fun d => by kernel_rfl
theorem gr18_6 : RR 18 6 [] := fun d => by kernel_rfl
theorem gr19_0 : RR 19 0 [] := fun d => by kernel_rfl
theorem gr19_6 : RR 19 6 [] := fun d => by kernel_rfl
theorem gr20_1 : RR 20 1 [2, 2] := fun d => by kernel_rfl
theorem gr20_3 : RR 20 3 [] := fun d => by kernel_rfl
end Go.Den
