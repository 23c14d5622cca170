/-
  A part of the proof: what a closed run says.
-/
import Derived.Test.YtpnfpdmkladmpaaGreatDoorTm
namespace Go.Den
set_option maxRecDepth 100000
/-- the law runs true, that far behind, at that one of its inputs, in as many ways as maps are gone through in -/
noncomputable abbrev RR (a r : Nat) (s : List Nat) : Prop := ∀ d : Int, callsO [.int .i64 d, .int .i64 (Int.ofNat 8)] (.int .i64 (Int.ofNat r)) 1000 100 (.func 6) [.int .i64 (Int.ofNat a), .int .i64 d] h0 isT = And ([.int .i64 d, .int .i64 (Int.ofNat 8)] = ([.int .i64 d, .int .i64 (Int.ofNat 8)] : List AV)) (shp s)
def Runs (a r : Nat) : Prop := ∀ d : Int, callsO [.int .i64 d, .int .i64 (Int.ofNat 8)] (.int .i64 (Int.ofNat r)) 1000 100 (.func 6) [.int .i64 (Int.ofNat a), .int .i64 d] h0 isT
theorem runs_of {a r : Nat} {s : List Nat} (h : RR a r s) : Runs a r := fun d => Eq.mpr (h d) ⟨rfl, shp_i _⟩
end Go.Den
