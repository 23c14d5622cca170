/-
  A part of the proof: closed runs of the law.
-/
import Derived.Test.YtpnfpdmkladmpaaGreatDoorTm0
import Derived.KernelRfl
namespace Go.Den
set_option maxRecDepth 100000
theorem gr0_7 : RR 0 7 [] := fun d => by kernel_rfl
theorem gr1_2 : RR 1 2 [] := fun d => by kernel_rfl
theorem gr1_7 : RR 1 7 [] := fun d => by kernel_rfl
theorem gr2_2 : RR 2 2 [] := fun d => by kernel_rfl
theorem gr2_4 : RR 2 4 [] := fun d => by kernel_rfl
theorem gr2_5 : RR 2 5 [2, 2] := fun d => by kernel_rfl
theorem gr3_4 : RR 3 4 [] := fun d => by kernel_rfl
theorem gr3_5 : RR 3 5 [2, 2] := fun d => by kernel_rfl
theorem gr4_7 : RR 4 7 [] := fun d => by kernel_rfl
theorem gr5_2 : RR 5 2 [] := fun d => by kernel_rfl
theorem gr5_7 : RR 5 7 [] := fun d => by kernel_rfl
theorem gr6_2 : RR 6 2 [] := fun d => by kernel_rfl
theorem gr6_4 : RR 6 4 [] := fun d => by kernel_rfl
theorem gr6_5 : RR 6 5 [2, 2] := fun d => by kernel_rfl
theorem gr7_4 : RR 7 4 [] := fun d => by kernel_rfl
theorem gr7_5 : RR 7 5 [2, 2] := fun d => by kernel_rfl
theorem gr8_7 : RR 8 7 [] := fun d => by kernel_rfl
theorem gr9_2 : RR 9 2 [] := fun d => by kernel_rfl
theorem gr9_7 : RR 9 7 [] := fun d => by kernel_rfl
theorem gr10_2 : RR 10 2 [] := fun d => by kernel_rfl
theorem gr10_4 : RR 10 4 [] := fun d => by kernel_rfl
theorem gr10_5 : RR 10 5 [2, 2] := fun d => by kernel_rfl
theorem gr11_4 : RR 11 4 [] := fun d => by kernel_rfl
theorem gr11_5 : RR 11 5 [2, 2] := fun d => by kernel_rfl
theorem gr12_7 : RR 12 7 [] := fun d => by kernel_rfl
theorem gr13_2 : RR 13 2 [] := fun d => by kernel_rfl
theorem gr13_7 : RR 13 7 [] := fun d => by kernel_rfl
theorem gr14_2 : RR 14 2 [] := fun d => by kernel_rfl
theorem gr14_4 : RR 14 4 [] := fun d => by kernel_rfl
theorem gr14_5 : RR 14 5 [2, 2] := fun d => by kernel_rfl
theorem gr15_4 : RR 15 4 [] := fun d => by kernel_rfl
theorem gr15_5 : RR 15 5 [2, 2] := fun d => by kernel_rfl
theorem gr16_7 : RR 16 7 [] := fun d => by kernel_rfl
theorem gr17_2 : RR 17 2 [] := fun d => by kernel_rfl
theorem gr17_7 : RR 17 7 [] := fun d => by kernel_rfl
theorem gr18_2 : RR 18 2 [] := fun d => by kernel_rfl
theorem gr18_4 : RR 18 4 [] := fun d => by kernel_rfl
theorem gr18_5 : RR 18 5 [2, 2] := fun d => by kernel_rfl
theorem gr19_4 : RR 19 4 [] := fun d => by kernel_rfl
theorem gr19_5 : RR 19 5 [2, 2] := fun d => by kernel_rfl
theorem gr20_2 : RR 20 2 [] := fun d => by kernel_rfl
theorem gr20_7 : RR 20 7 [] := fun d => by kernel_rfl
end Go.Den
