/-
  A part of the proof: closed runs of the law.
-/
import Derived.Test.YtpnfpdmkladmpaaGreatDoorTm0
import Derived.KernelRfl
namespace Go.Den
set_option maxRecDepth 100000
theorem gr0_2 : RR 0 2 [] := fun d => by kernel_rfl
theorem gr0_4 : RR 0 4 [] := fun d => by kernel_rfl
theorem gr0_5 : RR 0 5 [2, 2] := fun d => by kernel_rfl
theorem gr1_4 : RR 1 4 [] := fun d => by kernel_rfl
theorem gr1_5 : RR 1 5 [2, 2] := fun d => by kernel_rfl
theorem gr2_7 : RR 2 7 [] := fun d => by kernel_rfl
theorem gr3_2 : RR 3 2 [] := fun d => by kernel_rfl
theorem gr3_7 : RR 3 7 [] := fun d => by kernel_rfl
theorem gr4_2 : RR 4 2 [] := fun d => by kernel_rfl
theorem gr4_4 : RR 4 4 [] := fun d => by kernel_rfl
theorem gr4_5 : RR 4 5 [2, 2] := fun d => by kernel_rfl
theorem gr5_4 : RR 5 4 [] := fun d => by kernel_rfl
theorem gr5_5 : RR 5 5 [2, 2] := fun d => by kernel_rfl
theorem gr6_7 : RR 6 7 [] := fun d => by kernel_rfl
theorem gr7_2 : RR 7 2 [] := fun d => by kernel_rfl
theorem gr7_7 : RR 7 7 [] := fun d => by kernel_rfl
theorem gr8_2 : RR 8 2 [] := fun d => by kernel_rfl
theorem gr8_4 : RR 8 4 [] := fun d => by kernel_rfl
theorem gr8_5 : RR 8 5 [2, 2] := fun d => by kernel_rfl
theorem gr9_4 : RR 9 4 [] := fun d => by kernel_rfl
theorem gr9_5 : RR 9 5 [2, 2] := fun d => by kernel_rfl
theorem gr10_7 : RR 10 7 [] := fun d => by kernel_rfl
theorem gr11_2 : RR 11 2 [] := fun d => by kernel_rfl
theorem gr11_7 : RR 11 7 [] := fun d => by kernel_rfl
theorem gr12_2 : RR 12 2 [] := fun d => by kernel_rfl
theorem gr12_4 : RR 12 4 [] := fun d => by kernel_rfl
theorem gr12_5 : RR 12 5 [2, 2] := fun d => by kernel_rfl
theorem gr13_4 : RR 13 4 [] := fun d => by kernel_rfl
theorem gr13_5 : RR 13 5 [2, 2] := fun d => by kernel_rfl
theorem gr14_7 : RR 14 7 [] := fun d => by kernel_rfl
theorem gr15_2 : RR 15 2 [] := fun d => by kernel_rfl
theorem gr15_7 : RR 15 7 [] := fun d => by kernel_rfl
theorem gr16_2 : RR 16 2 [] := fun d => by kernel_rfl
theorem gr16_4 : RR 16 4 [] := fun d => by kernel_rfl
theorem gr16_5 : RR 16 5 [2, 2] := fun d => by kernel_rfl
theorem gr17_4 : RR 17 4 [] := fun d => by kernel_rfl
theorem gr17_5 : RR 17 5 [2, 2] := fun d => by kernel_rfl
theorem gr18_7 : RR 18 7 [] := fun d => by kernel_rfl
theorem gr19_2 : RR 19 2 [] := fun d => by kernel_rfl
theorem gr19_7 : RR 19 7 [] := fun d => by kernel_rfl
theorem gr20_4 : RR 20 4 [] := fun d => by kernel_rfl
theorem gr20_5 : RR 20 5 [2, 2] := fun d => by kernel_rfl
end Go.Den
