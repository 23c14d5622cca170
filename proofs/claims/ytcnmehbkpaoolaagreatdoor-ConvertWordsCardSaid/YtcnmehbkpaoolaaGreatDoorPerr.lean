/-
  A part of the proof.
-/
import Derived.Test.YtcnmehbkpaoolaaGreatDoorProg
import Derived.Lib.Walk
import Derived.Lib.IfaceEq
import Derived.WalkKit
import Derived.BigCall
import Derived.KernelRfl
namespace Go.Proofs
open Go.RowKit
set_option maxHeartbeats 4000000 in
set_option maxRecDepth 100000 in
theorem Tryz.Bbc {Q : Addr → World → Prop} (fn s : ByteArray) (base bits : Int) (w : World)
    (hr : Calls Tryz.prog 224 #[.string fn, .string s] w fun e w' => ∃ a, e = .returned (.pointer (some a)) ∧ Q a w') :
    Calls Tryz.prog 174 #[.string fn, .string s, .int .i64 base, .int .i64 bits, .iface 304 (.int .i64 1)] w fun e w' => ∃ a, e = .returned (.iface 306 (.pointer (some a))) ∧ Q a w' := by
  have hq12 : ∀ W, (binOp .eql 151 (.iface 304 (.int .i64 1)) (.iface 304 (.int .i64 2))).run Tryz.prog W = .ok (.bool false) W := fun W => Lib.run_eql_iface_int W 1 2 Tryz.underlying151 (by kernel_rfl) Tryz.underlying304
  have hq11 : ∀ W, (binOp .eql 151 (.iface 304 (.int .i64 1)) (.iface 304 (.int .i64 1))).run Tryz.prog W = .ok (.bool true) W := fun W => Lib.run_eql_iface_int W 1 1 Tryz.underlying151 (by kernel_rfl) Tryz.underlying304
  go_enter Tryz.func174, Tryz.ntmps174
  go_wp2_with (go_at_call 224; refine hr.mono ?_; rintro e w2 ⟨a, rfl, hQ⟩)
  go_wp2
  go_ret
  exact ⟨a, rfl, hQ⟩
end Go.Proofs
