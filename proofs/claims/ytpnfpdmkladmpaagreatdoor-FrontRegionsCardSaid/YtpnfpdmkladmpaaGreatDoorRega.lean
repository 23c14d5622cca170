/-
  A part of the proof: all closed runs of the law.
-/
import Derived.Test.YtpnfpdmkladmpaaGreatDoorReg1
import Derived.Test.YtpnfpdmkladmpaaGreatDoorReg2
import Derived.Test.YtpnfpdmkladmpaaGreatDoorReg3
import Derived.Test.YtpnfpdmkladmpaaGreatDoorReg4
import Derived.Test.YtpnfpdmkladmpaaGreatDoorReg5
import Derived.Test.YtpnfpdmkladmpaaGreatDoorReg6
import Derived.Test.YtpnfpdmkladmpaaGreatDoorReg7
import Derived.Test.YtpnfpdmkladmpaaGreatDoorReg8
namespace Go.Den
theorem run1 : ∀ c, c ≤ 1 → Runs 1 c
  | 0, _ => runs_of g1_0
  | 1, _ => runs_of g1_1
  | c + 2, h => by omega
theorem run2 : ∀ c, c ≤ 2 → Runs 2 c
  | 0, _ => runs_of g2_0
  | 1, _ => runs_of g2_1
  | 2, _ => runs_of g2_2
  | c + 3, h => by omega
theorem run3 : ∀ c, c ≤ 3 → Runs 3 c
  | 0, _ => runs_of g3_0
  | 1, _ => runs_of g3_1
  | 2, _ => runs_of g3_2
  | 3, _ => runs_of g3_3
  | c + 4, h => by omega
theorem run4 : ∀ c, c ≤ 4 → Runs 4 c
  | 0, _ => runs_of g4_0
  | 1, _ => runs_of g4_1
  | 2, _ => runs_of g4_2
  | 3, _ => runs_of g4_3
  | 4, _ => runs_of g4_4
  | c + 5, h => by omega
theorem run5 : ∀ c, c ≤ 5 → Runs 5 c
  | 0, _ => runs_of g5_0
  | 1, _ => runs_of g5_1
  | 2, _ => runs_of g5_2
  | 3, _ => runs_of g5_3
  | 4, _ => runs_of g5_4
  | 5, _ => runs_of g5_5
  | c + 6, h => by omega
theorem run6 : ∀ c, c ≤ 6 → Runs 6 c
  | 0, _ => runs_of g6_0
  | 1, _ => runs_of g6_1
  | 2, _ => runs_of g6_2
  | 3, _ => runs_of g6_3
  | 4, _ => runs_of g6_4
  | 5, _ => runs_of g6_5
  | 6, _ => runs_of g6_6
  | c + 7, h => by omega
theorem run7 : ∀ c, c ≤ 7 → Runs 7 c
  | 0, _ => runs_of g7_0
  | 1, _ => runs_of g7_1
  | 2, _ => runs_of g7_2
  | 3, _ => runs_of g7_3
  | 4, _ => runs_of g7_4
  | 5, _ => runs_of g7_5
  | 6, _ => runs_of g7_6
  | 7, _ => runs_of g7_7
  | c + 8, h => by omega
theorem run8 : ∀ c, c ≤ 8 → Runs 8 c
  | 0, _ => runs_of gr8_0
  | 1, _ => runs_of g8_1
  | 2, _ => runs_of g8_2
  | 3, _ => runs_of g8_3
  | 4, _ => runs_of g8_4
  | 5, _ => runs_of g8_5
  | 6, _ => runs_of g8_6
  | 7, _ => runs_of g8_7
  | 8, _ => runs_of g8_8
  | c + 9, h => by omega
theorem run9 : ∀ c, c ≤ 9 → Runs 9 c
  | 0, _ => runs_of g9_0
  | 1, _ => runs_of g9_1
  | 2, _ => runs_of g9_2
  | 3, _ => runs_of g9_3
  | 4, _ => runs_of g9_4
  | 5, _ => runs_of g9_5
  | 6, _ => runs_of g9_6
  | 7, _ => runs_of g9_7
  | 8, _ => runs_of g9_8
  | 9, _ => runs_of g9_9
  | c + 10, h => by omega
theorem run10 : ∀ c, c ≤ 10 → Runs 10 c
  | 0, _ => runs_of g10_0
  | 1, _ => runs_of g10_1
  | 2, _ => runs_of g10_2
  | 3, _ => runs_of g10_3
  | 4, _ => runs_of g10_4
  | 5, _ => runs_of g10_5
  | 6, _ => runs_of g10_6
  | 7, _ => runs_of g10_7
  | 8, _ => runs_of g10_8
  | 9, _ => runs_of g10_9
  | 10, _ => runs_of g10_10
  | c + 11, h => by omega
theorem run11 : ∀ c, c ≤ 11 → Runs 11 c
  | 0, _ => runs_of g11_0
  | 1, _ => runs_of g11_1
  | 2, _ => runs_of g11_2
  | 3, _ => runs_of g11_3
  | 4, _ => runs_of g11_4
  | 5, _ => runs_of g11_5
  | 6, _ => runs_of g11_6
  | 7, _ => runs_of g11_7
  | 8, _ => runs_of g11_8
  | 9, _ => runs_of g11_9
  | 10, _ => runs_of g11_10
  | 11, _ => runs_of g11_11
  | c + 12, h => by omega
theorem run12 : ∀ c, c ≤ 12 → Runs 12 c
  | 0, _ => runs_of g12_0
  | 1, _ => runs_of g12_1
  | 2, _ => runs_of g12_2
  | 3, _ => runs_of g12_3
  | 4, _ => runs_of g12_4
  | 5, _ => runs_of g12_5
  | 6, _ => runs_of g12_6
  | 7, _ => runs_of g12_7
  | 8, _ => runs_of g12_8
  | 9, _ => runs_of g12_9
  | 10, _ => runs_of g12_10
  | 11, _ => runs_of g12_11
  | 12, _ => runs_of g12_12
  | c + 13, h => by omega
theorem run13 : ∀ c, c ≤ 13 → Runs 13 c
  | 0, _ => runs_of g13_0
  | 1, _ => runs_of g13_1
  | 2, _ => runs_of g13_2
  | 3, _ => runs_of g13_3
  | 4, _ => runs_of g13_4
  | 5, _ => runs_of g13_5
  | 6, _ => runs_of g13_6
  | 7, _ => runs_of g13_7
  | 8, _ => runs_of g13_8
  | 9, _ => runs_of g13_9
  | 10, _ => runs_of g13_10
  | 11, _ => runs_of g13_11
  | 12, _ => runs_of g13_12
  | 13, _ => runs_of g13_13
  | c + 14, h => by omega
theorem run14 : ∀ c, c ≤ 14 → Runs 14 c
  | 0, _ => runs_of g14_0
  | 1, _ => runs_of g14_1
  | 2, _ => runs_of g14_2
  | 3, _ => runs_of g14_3
  | 4, _ => runs_of g14_4
  | 5, _ => runs_of g14_5
  | 6, _ => runs_of g14_6
  | 7, _ => runs_of g14_7
  | 8, _ => runs_of g14_8
  | 9, _ => runs_of g14_9
  | 10, _ => runs_of g14_10
  | 11, _ => runs_of g14_11
  | 12, _ => runs_of g14_12
  | 13, _ => runs_of g14_13
  | 14, _ => runs_of g14_14
  | c + 15, h => by omega
theorem run15 : ∀ c, c ≤ 15 → Runs 15 c
  | 0, _ => runs_of g15_0
  | 1, _ => runs_of g15_1
  | 2, _ => runs_of g15_2
  | 3, _ => runs_of g15_3
  | 4, _ => runs_of g15_4
  | 5, _ => runs_of g15_5
  | 6, _ => runs_of g15_6
  | 7, _ => runs_of g15_7
  | 8, _ => runs_of g15_8
  | 9, _ => runs_of g15_9
  | 10, _ => runs_of g15_10
  | 11, _ => runs_of g15_11
  | 12, _ => runs_of g15_12
  | 13, _ => runs_of g15_13
  | 14, _ => runs_of g15_14
  | 15, _ => runs_of g15_15
  | c + 16, h => by omega
theorem run16 : ∀ c, c ≤ 16 → Runs 16 c
  | 0, _ => runs_of g16_0
  | 1, _ => runs_of g16_1
  | 2, _ => runs_of g16_2
  | 3, _ => runs_of g16_3
  | 4, _ => runs_of g16_4
  | 5, _ => runs_of g16_5
  | 6, _ => runs_of g16_6
  | 7, _ => runs_of g16_7
  | 8, _ => runs_of g16_8
  | 9, _ => runs_of g16_9
  | 10, _ => runs_of g16_10
  | 11, _ => runs_of g16_11
  | 12, _ => runs_of g16_12
  | 13, _ => runs_of g16_13
  | 14, _ => runs_of g16_14
  | 15, _ => runs_of g16_15
  | 16, _ => runs_of g16_16
  | c + 17, h => by omega
theorem run17 : ∀ c, c ≤ 17 → Runs 17 c
  | 0, _ => runs_of g17_0
  | 1, _ => runs_of g17_1
  | 2, _ => runs_of g17_2
  | 3, _ => runs_of g17_3
  | 4, _ => runs_of g17_4
  | 5, _ => runs_of g17_5
  | 6, _ => runs_of g17_6
  | 7, _ => runs_of g17_7
  | 8, _ => runs_of g17_8
  | 9, _ => runs_of g17_9
  | 10, _ => runs_of g17_10
  | 11, _ => runs_of g17_11
  | 12, _ => runs_of g17_12
  | 13, _ => runs_of g17_13
  | 14, _ => runs_of g17_14
  | 15, _ => runs_of g17_15
  | 16, _ => runs_of g17_16
  | 17, _ => runs_of g17_17
  | c + 18, h => by omega
theorem run18 : ∀ c, c ≤ 18 → Runs 18 c
  | 0, _ => runs_of g18_0
  | 1, _ => runs_of g18_1
  | 2, _ => runs_of g18_2
  | 3, _ => runs_of g18_3
  | 4, _ => runs_of g18_4
  | 5, _ => runs_of g18_5
  | 6, _ => runs_of g18_6
  | 7, _ => runs_of g18_7
  | 8, _ => runs_of g18_8
  | 9, _ => runs_of g18_9
  | 10, _ => runs_of g18_10
  | 11, _ => runs_of g18_11
  | 12, _ => runs_of g18_12
  | 13, _ => runs_of g18_13
  | 14, _ => runs_of g18_14
  | 15, _ => runs_of g18_15
  | 16, _ => runs_of g18_16
  | 17, _ => runs_of g18_17
  | 18, _ => runs_of g18_18
  | c + 19, h => by omega
theorem run19 : ∀ c, c ≤ 19 → Runs 19 c
  | 0, _ => runs_of g19_0
  | 1, _ => runs_of g19_1
  | 2, _ => runs_of g19_2
  | 3, _ => runs_of g19_3
  | 4, _ => runs_of g19_4
  | 5, _ => runs_of g19_5
  | 6, _ => runs_of g19_6
  | 7, _ => runs_of g19_7
  | 8, _ => runs_of g19_8
  | 9, _ => runs_of g19_9
  | 10, _ => runs_of g19_10
  | 11, _ => runs_of g19_11
  | 12, _ => runs_of g19_12
  | 13, _ => runs_of g19_13
  | 14, _ => runs_of g19_14
  | 15, _ => runs_of g19_15
  | 16, _ => runs_of g19_16
  | 17, _ => runs_of g19_17
  | 18, _ => runs_of g19_18
  | 19, _ => runs_of g19_19
  | c + 20, h => by omega
theorem run20 : ∀ c, c ≤ 20 → Runs 20 c
  | 0, _ => runs_of g20_0
  | 1, _ => runs_of g20_1
  | 2, _ => runs_of g20_2
  | 3, _ => runs_of g20_3
  | 4, _ => runs_of g20_4
  | 5, _ => runs_of g20_5
  | 6, _ => runs_of g20_6
  | 7, _ => runs_of g20_7
  | 8, _ => runs_of g20_8
  | 9, _ => runs_of g20_9
  | 10, _ => runs_of g20_10
  | 11, _ => runs_of g20_11
  | 12, _ => runs_of g20_12
  | 13, _ => runs_of g20_13
  | 14, _ => runs_of g20_14
  | 15, _ => runs_of g20_15
  | 16, _ => runs_of g20_16
  | 17, _ => runs_of g20_17
  | 18, _ => runs_of g20_18
  | 19, _ => runs_of g20_19
  | 20, _ => runs_of g20_20
  | c + 21, h => by omega
theorem runs : ∀ l : Nat, 1 ≤ l → l ≤ 20 → ∀ c, c ≤ l → Runs l c
  | 0, h, _ => absurd h (by omega)
  | 1, _, _ => run1
  | 2, _, _ => run2
  | 3, _, _ => run3
  | 4, _, _ => run4
  | 5, _, _ => run5
  | 6, _, _ => run6
  | 7, _, _ => run7
  | 8, _, _ => run8
  | 9, _, _ => run9
  | 10, _, _ => run10
  | 11, _, _ => run11
  | 12, _, _ => run12
  | 13, _, _ => run13
  | 14, _, _ => run14
  | 15, _, _ => run15
  | 16, _, _ => run16
  | 17, _, _ => run17
  | 18, _, _ => run18
  | 19, _, _ => run19
  | 20, _, _ => run20
  | l + 21, _, h => absurd h (by omega)
end Go.Den
