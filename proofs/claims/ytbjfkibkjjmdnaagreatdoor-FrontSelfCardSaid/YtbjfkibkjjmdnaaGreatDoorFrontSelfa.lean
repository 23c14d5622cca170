/-
  A part of the proof: all runs of the law.
-/
import Derived.Test.YtbjfkibkjjmdnaaGreatDoorFsl
import Derived.Test.YtbjfkibkjjmdnaaGreatDoorFr0f
import Derived.Test.YtbjfkibkjjmdnaaGreatDoorFr0t
import Derived.Test.YtbjfkibkjjmdnaaGreatDoorFr1f
import Derived.Test.YtbjfkibkjjmdnaaGreatDoorFr1t
import Derived.Test.YtbjfkibkjjmdnaaGreatDoorFr2f
import Derived.Test.YtbjfkibkjjmdnaaGreatDoorFr2t
import Derived.Test.YtbjfkibkjjmdnaaGreatDoorFr3f
import Derived.Test.YtbjfkibkjjmdnaaGreatDoorFr3t
import Derived.Test.YtbjfkibkjjmdnaaGreatDoorFr4f
import Derived.Test.YtbjfkibkjjmdnaaGreatDoorFr4t
import Derived.Test.YtbjfkibkjjmdnaaGreatDoorFr5f
import Derived.Test.YtbjfkibkjjmdnaaGreatDoorFr5t
import Derived.KernelRfl
namespace Go.Den
set_option maxRecDepth 100000
theorem g13 : calls 1000 100 (.func 13) [] h0 isT = shp [2, 2, 2] := by kernel_rfl
theorem c13 : Pure PP G h0 13 [] (.bool true) := sh_run g13
theorem runs {m : Nat} (h1 : 1 ≤ m) (h2 : m ≤ 100) : ∀ l p, l ≤ 5 → ∃ c : Caller Prop FT, CallOk PP (CP env) G (fun p => p) c ∧ c (.func 4) [.int .i64 (Int.ofNat m), .int .i64 (Int.ofNat l), .bool p] h0 isT
  | 0, false, h => ⟨_, callsF_ok f_aa0 f_aa0 (fun hk => use2 c13 hk) 5000 513, run_ok r_0f h h1 h2⟩
  | 0, true, h => ⟨_, callsF_ok f_ab0 f_ba0 (fun hk => use2 c13 hk) 5000 513, run_ok r_0t h h1 h2⟩
  | 1, false, h => ⟨_, callsF_ok f_aa1 f_aa1 (fun hk => use2 c13 hk) 5000 513, run_ok r_1f h h1 h2⟩
  | 1, true, h => ⟨_, callsF_ok f_ab1 f_ba1 (fun hk => use2 c13 hk) 5000 513, run_ok r_1t h h1 h2⟩
  | 2, false, h => ⟨_, callsF_ok f_aa2 f_aa2 (fun hk => use2 c13 hk) 5000 513, run_ok r_2f h h1 h2⟩
  | 2, true, h => ⟨_, callsF_ok f_ab2 f_ba2 (fun hk => use2 c13 hk) 5000 513, run_ok r_2t h h1 h2⟩
  | 3, false, h => ⟨_, callsF_ok f_aa3 f_aa3 (fun hk => use2 c13 hk) 5000 513, run_ok r_3f h h1 h2⟩
  | 3, true, h => ⟨_, callsF_ok f_ab3 f_ba3 (fun hk => use2 c13 hk) 5000 513, run_ok r_3t h h1 h2⟩
  | 4, false, h => ⟨_, callsF_ok f_aa4 f_aa4 (fun hk => use2 c13 hk) 5000 513, run_ok r_4f h h1 h2⟩
  | 4, true, h => ⟨_, callsF_ok f_ab4 f_ba4 (fun hk => use2 c13 hk) 5000 513, run_ok r_4t h h1 h2⟩
  | 5, false, h => ⟨_, callsF_ok f_aa5 f_aa5 (fun hk => use2 c13 hk) 5000 513, run_ok r_5f h h1 h2⟩
  | 5, true, h => ⟨_, callsF_ok f_ab5 f_ba5 (fun hk => use2 c13 hk) 5000 513, run_ok r_5t h h1 h2⟩
  | l + 6, _, h => absurd h (by omega)
end Go.Den
