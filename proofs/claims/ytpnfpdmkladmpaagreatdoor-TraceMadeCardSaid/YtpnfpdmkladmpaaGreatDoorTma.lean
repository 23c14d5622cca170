/-
  A part of the proof: all closed runs of the law.
-/
import Derived.Test.YtpnfpdmkladmpaaGreatDoorTm1
import Derived.Test.YtpnfpdmkladmpaaGreatDoorTm2
import Derived.Test.YtpnfpdmkladmpaaGreatDoorTm3
import Derived.Test.YtpnfpdmkladmpaaGreatDoorTm4
namespace Go.Den
set_option maxRecDepth 100000
theorem run0 : ∀ r, r < 8 → Runs 0 r
  | 0, _ => runs_of gr0_0
  | 1, _ => runs_of gr0_1
  | 2, _ => runs_of gr0_2
  | 3, _ => runs_of gr0_3
  | 4, _ => runs_of gr0_4
  | 5, _ => runs_of gr0_5
  | 6, _ => runs_of gr0_6
  | 7, _ => runs_of gr0_7
  | r + 8, h => absurd h (by omega)
theorem run1 : ∀ r, r < 8 → Runs 1 r
  | 0, _ => runs_of gr1_0
  | 1, _ => runs_of gr1_1
  | 2, _ => runs_of gr1_2
  | 3, _ => runs_of gr1_3
  | 4, _ => runs_of gr1_4
  | 5, _ => runs_of gr1_5
  | 6, _ => runs_of gr1_6
  | 7, _ => runs_of gr1_7
  | r + 8, h => absurd h (by omega)
theorem run2 : ∀ r, r < 8 → Runs 2 r
  | 0, _ => runs_of gr2_0
  | 1, _ => runs_of gr2_1
  | 2, _ => runs_of gr2_2
  | 3, _ => runs_of gr2_3
  | 4, _ => runs_of gr2_4
  | 5, _ => runs_of gr2_5
  | 6, _ => runs_of gr2_6
  | 7, _ => runs_of gr2_7
  | r + 8, h => absurd h (by omega)
theorem run3 : ∀ r, r < 8 → Runs 3 r
  | 0, _ => runs_of gr3_0
  | 1, _ => runs_of gr3_1
  | 2, _ => runs_of gr3_2
  | 3, _ => runs_of gr3_3
  | 4, _ => runs_of gr3_4
  | 5, _ => runs_of gr3_5
  | 6, _ => runs_of gr3_6
  | 7, _ => runs_of gr3_7
  | r + 8, h => absurd h (by omega)
theorem run4 : ∀ r, r < 8 → Runs 4 r
  | 0, _ => runs_of gr4_0
  | 1, _ => runs_of gr4_1
  | 2, _ => runs_of gr4_2
  | 3, _ => runs_of gr4_3
  | 4, _ => runs_of gr4_4
  | 5, _ => runs_of gr4_5
  | 6, _ => runs_of gr4_6
  | 7, _ => runs_of gr4_7
  | r + 8, h => absurd h (by omega)
theorem run5 : ∀ r, r < 8 → Runs 5 r
  | 0, _ => runs_of gr5_0
  | 1, _ => runs_of gr5_1
  | 2, _ => runs_of gr5_2
  | 3, _ => runs_of gr5_3
  | 4, _ => runs_of gr5_4
  | 5, _ => runs_of gr5_5
  | 6, _ => runs_of gr5_6
  | 7, _ => runs_of gr5_7
  | r + 8, h => absurd h (by omega)
theorem run6 : ∀ r, r < 8 → Runs 6 r
  | 0, _ => runs_of gr6_0
  | 1, _ => runs_of gr6_1
  | 2, _ => runs_of gr6_2
  | 3, _ => runs_of gr6_3
  | 4, _ => runs_of gr6_4
  | 5, _ => runs_of gr6_5
  | 6, _ => runs_of gr6_6
  | 7, _ => runs_of gr6_7
  | r + 8, h => absurd h (by omega)
theorem run7 : ∀ r, r < 8 → Runs 7 r
  | 0, _ => runs_of gr7_0
  | 1, _ => runs_of gr7_1
  | 2, _ => runs_of gr7_2
  | 3, _ => runs_of gr7_3
  | 4, _ => runs_of gr7_4
  | 5, _ => runs_of gr7_5
  | 6, _ => runs_of gr7_6
  | 7, _ => runs_of gr7_7
  | r + 8, h => absurd h (by omega)
theorem run8 : ∀ r, r < 8 → Runs 8 r
  | 0, _ => runs_of gr8_0
  | 1, _ => runs_of gr8_1
  | 2, _ => runs_of gr8_2
  | 3, _ => runs_of gr8_3
  | 4, _ => runs_of gr8_4
  | 5, _ => runs_of gr8_5
  | 6, _ => runs_of gr8_6
  | 7, _ => runs_of gr8_7
  | r + 8, h => absurd h (by omega)
theorem run9 : ∀ r, r < 8 → Runs 9 r
  | 0, _ => runs_of gr9_0
  | 1, _ => runs_of gr9_1
  | 2, _ => runs_of gr9_2
  | 3, _ => runs_of gr9_3
  | 4, _ => runs_of gr9_4
  | 5, _ => runs_of gr9_5
  | 6, _ => runs_of gr9_6
  | 7, _ => runs_of gr9_7
  | r + 8, h => absurd h (by omega)
theorem run10 : ∀ r, r < 8 → Runs 10 r
  | 0, _ => runs_of gr10_0
  | 1, _ => runs_of gr10_1
  | 2, _ => runs_of gr10_2
  | 3, _ => runs_of gr10_3
  | 4, _ => runs_of gr10_4
  | 5, _ => runs_of gr10_5
  | 6, _ => runs_of gr10_6
  | 7, _ => runs_of gr10_7
  | r + 8, h => absurd h (by omega)
theorem run11 : ∀ r, r < 8 → Runs 11 r
  | 0, _ => runs_of gr11_0
  | 1, _ => runs_of gr11_1
  | 2, _ => runs_of gr11_2
  | 3, _ => runs_of gr11_3
  | 4, _ => runs_of gr11_4
  | 5, _ => runs_of gr11_5
  | 6, _ => runs_of gr11_6
  | 7, _ => runs_of gr11_7
  | r + 8, h => absurd h (by omega)
theorem run12 : ∀ r, r < 8 → Runs 12 r
  | 0, _ => runs_of gr12_0
  | 1, _ => runs_of gr12_1
  | 2, _ => runs_of gr12_2
  | 3, _ => runs_of gr12_3
  | 4, _ => runs_of gr12_4
  | 5, _ => runs_of gr12_5
  | 6, _ => runs_of gr12_6
  | 7, _ => runs_of gr12_7
  | r + 8, h => absurd h (by omega)
theorem run13 : ∀ r, r < 8 → Runs 13 r
  | 0, _ => runs_of gr13_0
  | 1, _ => runs_of gr13_1
  | 2, _ => runs_of gr13_2
  | 3, _ => runs_of gr13_3
  | 4, _ => runs_of gr13_4
  | 5, _ => runs_of gr13_5
  | 6, _ => runs_of gr13_6
  | 7, _ => runs_of gr13_7
  | r + 8, h => absurd h (by omega)
theorem run14 : ∀ r, r < 8 → Runs 14 r
  | 0, _ => runs_of gr14_0
  | 1, _ => runs_of gr14_1
  | 2, _ => runs_of gr14_2
  | 3, _ => runs_of gr14_3
  | 4, _ => runs_of gr14_4
  | 5, _ => runs_of gr14_5
  | 6, _ => runs_of gr14_6
  | 7, _ => runs_of gr14_7
  | r + 8, h => absurd h (by omega)
theorem run15 : ∀ r, r < 8 → Runs 15 r
  | 0, _ => runs_of gr15_0
  | 1, _ => runs_of gr15_1
  | 2, _ => runs_of gr15_2
  | 3, _ => runs_of gr15_3
  | 4, _ => runs_of gr15_4
  | 5, _ => runs_of gr15_5
  | 6, _ => runs_of gr15_6
  | 7, _ => runs_of gr15_7
  | r + 8, h => absurd h (by omega)
theorem run16 : ∀ r, r < 8 → Runs 16 r
  | 0, _ => runs_of gr16_0
  | 1, _ => runs_of gr16_1
  | 2, _ => runs_of gr16_2
  | 3, _ => runs_of gr16_3
  | 4, _ => runs_of gr16_4
  | 5, _ => runs_of gr16_5
  | 6, _ => runs_of gr16_6
  | 7, _ => runs_of gr16_7
  | r + 8, h => absurd h (by omega)
theorem run17 : ∀ r, r < 8 → Runs 17 r
  | 0, _ => runs_of gr17_0
  | 1, _ => runs_of gr17_1
  | 2, _ => runs_of gr17_2
  | 3, _ => runs_of gr17_3
  | 4, _ => runs_of gr17_4
  | 5, _ => runs_of gr17_5
  | 6, _ => runs_of gr17_6
  | 7, _ => runs_of gr17_7
  | r + 8, h => absurd h (by omega)
theorem run18 : ∀ r, r < 8 → Runs 18 r
  | 0, _ => runs_of gr18_0
  | 1, _ => runs_of gr18_1
  | 2, _ => runs_of gr18_2
  | 3, _ => runs_of gr18_3
  | 4, _ => runs_of gr18_4
  | 5, _ => runs_of gr18_5
  | 6, _ => runs_of gr18_6
  | 7, _ => runs_of gr18_7
  | r + 8, h => absurd h (by omega)
theorem run19 : ∀ r, r < 8 → Runs 19 r
  | 0, _ => runs_of gr19_0
  | 1, _ => runs_of gr19_1
  | 2, _ => runs_of gr19_2
  | 3, _ => runs_of gr19_3
  | 4, _ => runs_of gr19_4
  | 5, _ => runs_of gr19_5
  | 6, _ => runs_of gr19_6
  | 7, _ => runs_of gr19_7
  | r + 8, h => absurd h (by omega)
theorem run20 : ∀ r, r < 8 → Runs 20 r
  | 0, _ => runs_of gr20_0
  | 1, _ => runs_of gr20_1
  | 2, _ => runs_of gr20_2
  | 3, _ => runs_of gr20_3
  | 4, _ => runs_of gr20_4
  | 5, _ => runs_of gr20_5
  | 6, _ => runs_of gr20_6
  | 7, _ => runs_of gr20_7
  | r + 8, h => absurd h (by omega)
theorem runs : ∀ a : Nat, a ≤ 20 → ∀ r, r < 8 → Runs a r
  | 0, _ => run0
  | 1, _ => run1
  | 2, _ => run2
  | 3, _ => run3
  | 4, _ => run4
  | 5, _ => run5
  | 6, _ => run6
  | 7, _ => run7
  | 8, _ => run8
  | 9, _ => run9
  | 10, _ => run10
  | 11, _ => run11
  | 12, _ => run12
  | 13, _ => run13
  | 14, _ => run14
  | 15, _ => run15
  | 16, _ => run16
  | 17, _ => run17
  | 18, _ => run18
  | 19, _ => run19
  | 20, _ => run20
  | a + 21, h => absurd h (by omega)
end Go.Den
