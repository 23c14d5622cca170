/-
  A part of the proof: all closed runs of the law.
-/
import Derived.Test.YtbjfkibkjjmdnaaGreatDoorTob
import Derived.Test.YtbjfkibkjjmdnaaGreatDoorTs1
import Derived.Test.YtbjfkibkjjmdnaaGreatDoorTs2
import Derived.Test.YtbjfkibkjjmdnaaGreatDoorTs3
import Derived.Test.YtbjfkibkjjmdnaaGreatDoorTs4
import Derived.Test.YtbjfkibkjjmdnaaGreatDoorTs5
import Derived.Test.YtbjfkibkjjmdnaaGreatDoorTs6
import Derived.Test.YtbjfkibkjjmdnaaGreatDoorTs7
import Derived.Test.YtbjfkibkjjmdnaaGreatDoorTs8
import Derived.Test.YtbjfkibkjjmdnaaGreatDoorTs9
import Derived.Test.YtbjfkibkjjmdnaaGreatDoorTs10
import Derived.Test.YtbjfkibkjjmdnaaGreatDoorTs11
import Derived.Test.YtbjfkibkjjmdnaaGreatDoorTs12
import Derived.Test.YtbjfkibkjjmdnaaGreatDoorTs13
import Derived.Test.YtbjfkibkjjmdnaaGreatDoorTs14
import Derived.Test.YtbjfkibkjjmdnaaGreatDoorTs15
import Derived.Test.YtbjfkibkjjmdnaaGreatDoorTs16
import Derived.KernelRfl
namespace Go.Den
set_option maxRecDepth 100000
theorem c6 : Pure PP G h0 6 [] (.bool true) := true_run (m := 5000) (n := 2000) (by kernel_rfl)
theorem run1 : ∀ a, a ≤ 10 → RS 1 a
  | 0, _ => gr1_0
  | 1, _ => gr1_1
  | 2, _ => gr1_2
  | 3, _ => gr1_3
  | 4, _ => gr1_4
  | 5, _ => gr1_5
  | 6, _ => gr1_6
  | 7, _ => gr1_7
  | 8, _ => gr1_8
  | 9, _ => gr1_9
  | 10, _ => gr1_10
  | a + 11, h => absurd h (by omega)
theorem run2 : ∀ a, a ≤ 10 → RS 2 a
  | 0, _ => gr2_0
  | 1, _ => gr2_1
  | 2, _ => gr2_2
  | 3, _ => gr2_3
  | 4, _ => gr2_4
  | 5, _ => gr2_5
  | 6, _ => gr2_6
  | 7, _ => gr2_7
  | 8, _ => gr2_8
  | 9, _ => gr2_9
  | 10, _ => gr2_10
  | a + 11, h => absurd h (by omega)
theorem run3 : ∀ a, a ≤ 10 → RS 3 a
  | 0, _ => gr3_0
  | 1, _ => gr3_1
  | 2, _ => gr3_2
  | 3, _ => gr3_3
  | 4, _ => gr3_4
  | 5, _ => gr3_5
  | 6, _ => gr3_6
  | 7, _ => gr3_7
  | 8, _ => gr3_8
  | 9, _ => gr3_9
  | 10, _ => gr3_10
  | a + 11, h => absurd h (by omega)
theorem run4 : ∀ a, a ≤ 10 → RS 4 a
  | 0, _ => gr4_0
  | 1, _ => gr4_1
  | 2, _ => gr4_2
  | 3, _ => gr4_3
  | 4, _ => gr4_4
  | 5, _ => gr4_5
  | 6, _ => gr4_6
  | 7, _ => gr4_7
  | 8, _ => gr4_8
  | 9, _ => gr4_9
  | 10, _ => gr4_10
  | a + 11, h => absurd h (by omega)
theorem run5 : ∀ a, a ≤ 10 → RS 5 a
  | 0, _ => gr5_0
  | 1, _ => gr5_1
  | 2, _ => gr5_2
  | 3, _ => gr5_3
  | 4, _ => gr5_4
  | 5, _ => gr5_5
  | 6, _ => gr5_6
  | 7, _ => gr5_7
  | 8, _ => gr5_8
  | 9, _ => gr5_9
  | 10, _ => gr5_10
  | a + 11, h => absurd h (by omega)
theorem run6 : ∀ a, a ≤ 10 → RS 6 a
  | 0, _ => gr6_0
  | 1, _ => gr6_1
  | 2, _ => gr6_2
  | 3, _ => gr6_3
  | 4, _ => gr6_4
  | 5, _ => gr6_5
  | 6, _ => gr6_6
  | 7, _ => gr6_7
  | 8, _ => gr6_8
  | 9, _ => gr6_9
  | 10, _ => gr6_10
  | a + 11, h => absurd h (by omega)
theorem run7 : ∀ a, a ≤ 10 → RS 7 a
  | 0, _ => gr7_0
  | 1, _ => gr7_1
  | 2, _ => gr7_2
  | 3, _ => gr7_3
  | 4, _ => gr7_4
  | 5, _ => gr7_5
  | 6, _ => gr7_6
  | 7, _ => gr7_7
  | 8, _ => gr7_8
  | 9, _ => gr7_9
  | 10, _ => gr7_10
  | a + 11, h => absurd h (by omega)
theorem run8 : ∀ a, a ≤ 10 → RS 8 a
  | 0, _ => gr8_0
  | 1, _ => gr8_1
  | 2, _ => gr8_2
  | 3, _ => gr8_3
  | 4, _ => gr8_4
  | 5, _ => gr8_5
  | 6, _ => gr8_6
  | 7, _ => gr8_7
  | 8, _ => gr8_8
  | 9, _ => gr8_9
  | 10, _ => gr8_10
  | a + 11, h => absurd h (by omega)
theorem run9 : ∀ a, a ≤ 10 → RS 9 a
  | 0, _ => gr9_0
  | 1, _ => gr9_1
  | 2, _ => gr9_2
  | 3, _ => gr9_3
  | 4, _ => gr9_4
  | 5, _ => gr9_5
  | 6, _ => gr9_6
  | 7, _ => gr9_7
  | 8, _ => gr9_8
  | 9, _ => gr9_9
  | 10, _ => gr9_10
  | a + 11, h => absurd h (by omega)
theorem run10 : ∀ a, a ≤ 10 → RS 10 a
  | 0, _ => gr10_0
  | 1, _ => gr10_1
  | 2, _ => gr10_2
  | 3, _ => gr10_3
  | 4, _ => gr10_4
  | 5, _ => gr10_5
  | 6, _ => gr10_6
  | 7, _ => gr10_7
  | 8, _ => gr10_8
  | 9, _ => gr10_9
  | 10, _ => gr10_10
  | a + 11, h => absurd h (by omega)
theorem run11 : ∀ a, a ≤ 10 → RS 11 a
  | 0, _ => gr11_0
  | 1, _ => gr11_1
  | 2, _ => gr11_2
  | 3, _ => gr11_3
  | 4, _ => gr11_4
  | 5, _ => gr11_5
  | 6, _ => gr11_6
  | 7, _ => gr11_7
  | 8, _ => gr11_8
  | 9, _ => gr11_9
  | 10, _ => gr11_10
  | a + 11, h => absurd h (by omega)
theorem run12 : ∀ a, a ≤ 10 → RS 12 a
  | 0, _ => gr12_0
  | 1, _ => gr12_1
  | 2, _ => gr12_2
  | 3, _ => gr12_3
  | 4, _ => gr12_4
  | 5, _ => gr12_5
  | 6, _ => gr12_6
  | 7, _ => gr12_7
  | 8, _ => gr12_8
  | 9, _ => gr12_9
  | 10, _ => gr12_10
  | a + 11, h => absurd h (by omega)
theorem run13 : ∀ a, a ≤ 10 → RS 13 a
  | 0, _ => gr13_0
  | 1, _ => gr13_1
  | 2, _ => gr13_2
  | 3, _ => gr13_3
  | 4, _ => gr13_4
  | 5, _ => gr13_5
  | 6, _ => gr13_6
  | 7, _ => gr13_7
  | 8, _ => gr13_8
  | 9, _ => gr13_9
  | 10, _ => gr13_10
  | a + 11, h => absurd h (by omega)
theorem run14 : ∀ a, a ≤ 10 → RS 14 a
  | 0, _ => gr14_0
  | 1, _ => gr14_1
  | 2, _ => gr14_2
  | 3, _ => gr14_3
  | 4, _ => gr14_4
  | 5, _ => gr14_5
  | 6, _ => gr14_6
  | 7, _ => gr14_7
  | 8, _ => gr14_8
  | 9, _ => gr14_9
  | 10, _ => gr14_10
  | a + 11, h => absurd h (by omega)
theorem run15 : ∀ a, a ≤ 10 → RS 15 a
  | 0, _ => gr15_0
  | 1, _ => gr15_1
  | 2, _ => gr15_2
  | 3, _ => gr15_3
  | 4, _ => gr15_4
  | 5, _ => gr15_5
  | 6, _ => gr15_6
  | 7, _ => gr15_7
  | 8, _ => gr15_8
  | 9, _ => gr15_9
  | 10, _ => gr15_10
  | a + 11, h => absurd h (by omega)
theorem runs : ∀ n : Nat, 1 ≤ n → n ≤ 15 → ∀ a, a ≤ 10 → RS n a
  | 0, h, _ => absurd h (by omega)
  | 1, _, _ => run1
  | 2, _, _ => run2
  | 3, _, _ => run3
  | 4, _, _ => run4
  | 5, _, _ => run5
  | 6, _, _ => run6
  | 7, _, _ => run7
  | 8, _, _ => run8
  | 9, _, _ => run9
  | 10, _, _ => run10
  | 11, _, _ => run11
  | 12, _, _ => run12
  | 13, _, _ => run13
  | 14, _, _ => run14
  | 15, _, _ => run15
  | n + 16, _, h => absurd h (by omega)
/-- outside of what is looked at -/
theorem out_run (n a : Int) : callsT 6 1 3 (.func 3) [.int .i64 n, .int .i64 a] h0 isT =
    Bool.rec (Bool.rec (Bool.rec (Bool.rec False True (iblt (Int.ofNat 10) a)) True (iblt a (Int.ofNat 0))) True (iblt (Int.ofNat 15) n)) True (iblt n (Int.ofNat 1)) := by kernel_rfl
theorem out_ok {n a : Int} (h : n < 1 ∨ 15 < n ∨ a < 0 ∨ 10 < a) : callsT 6 1 3 (.func 3) [.int .i64 n, .int .i64 a] h0 isT := by
  refine (out_run n a).mpr ?_
  have key : ∀ a b : Int, iblt a b = decide (a < b) := fun a b => iblt_eq a b
  rw [key, key, key, key]
  by_cases h1 : n < Int.ofNat 1
  · rw [decide_eq_true h1]; trivial
  · rw [decide_eq_false h1]
    by_cases h2 : Int.ofNat 15 < n
    · rw [decide_eq_true h2]; trivial
    · rw [decide_eq_false h2]
      by_cases h3 : a < Int.ofNat 0
      · rw [decide_eq_true h3]; trivial
      · rw [decide_eq_false h3]
        by_cases h4 : Int.ofNat 10 < a
        · rw [decide_eq_true h4]; trivial
        · exfalso
          have h1 : ¬ n < 1 := h1
          have h2 : ¬ (15 : Int) < n := h2
          have h3 : ¬ a < 0 := h3
          have h4 : ¬ (10 : Int) < a := h4
          omega
end Go.Den
