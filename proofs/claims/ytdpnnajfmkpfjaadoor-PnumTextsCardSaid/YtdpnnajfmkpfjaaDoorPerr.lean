/-
  A part of the proof: strconv.toError, at ErrRange.
-/
import Derived.Test.YtdpnnajfmkpfjaaDoorProg
import Derived.Lib.Walk
import Derived.Lib.IfaceEq
import Derived.WalkKit
import Derived.BigCall
import Derived.KernelRfl
namespace Go.Proofs
open Go.RowKit
set_option maxHeartbeats 4000000 in
set_option maxRecDepth 100000 in
theorem Tryd.toErr {Q : Addr → World → Prop} (fn s : ByteArray) (base bits : Int) (w : World)
    (hr : Calls Tryd.prog 60 #[.string fn, .string s] w fun e w' => ∃ a, e = .returned (.pointer (some a)) ∧ Q a w') :
    Calls Tryd.prog 44 #[.string fn, .string s, .int .i64 base, .int .i64 bits, .iface 83 (.int .i64 1)] w fun e w' => ∃ a, e = .returned (.iface 85 (.pointer (some a))) ∧ Q a w' := by
  have hq12 : ∀ W, (binOp .eql 50 (.iface 83 (.int .i64 1)) (.iface 83 (.int .i64 2))).run Tryd.prog W = .ok (.bool false) W := fun W => Lib.run_eql_iface_int W 1 2 Tryd.underlying50 (by kernel_rfl) Tryd.underlying83
  have hq11 : ∀ W, (binOp .eql 50 (.iface 83 (.int .i64 1)) (.iface 83 (.int .i64 1))).run Tryd.prog W = .ok (.bool true) W := fun W => Lib.run_eql_iface_int W 1 1 Tryd.underlying50 (by kernel_rfl) Tryd.underlying83
  go_enter Tryd.func44, Tryd.ntmps44
  go_wp2_with (go_at_call 60; refine hr.mono ?_; rintro e w2 ⟨a, rfl, hQ⟩)
  go_wp2
  go_ret
  exact ⟨a, rfl, hQ⟩
end Go.Proofs
