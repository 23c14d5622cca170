/-
 Part of the proof.
-/
import Derived.KernelRfl
namespace Go.Pre
abbrev Tok := Nat × List UInt8
end Go.Pre
