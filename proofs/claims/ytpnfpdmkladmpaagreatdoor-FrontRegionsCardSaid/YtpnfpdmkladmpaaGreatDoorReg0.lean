/-
  A part of the proof: what a closed run says.
-/
import Derived.Test.YtpnfpdmkladmpaaGreatDoorReg
namespace Go.Den
/-- the law runs true on so many lines, with the directive ahead of that line, in as many ways as maps are gone through in -/
noncomputable abbrev RR (l c : Nat) (s : List Nat) : Prop := ∀ d : Int, callsO [.int .i64 d, .int .i64 (Int.ofNat (Nat.succ l))] (.int .i64 (Int.ofNat c)) 1000 100 (.func 4) [.int .i64 (Int.ofNat l), .int .i64 d] h0 isT = And ([.int .i64 d, .int .i64 (Int.ofNat (Nat.succ l))] = ([.int .i64 d, .int .i64 (Int.ofNat (Nat.succ l))] : List AV)) (shp s)
def Runs (l c : Nat) : Prop := ∀ d : Int, callsO [.int .i64 d, .int .i64 (Int.ofNat (Nat.succ l))] (.int .i64 (Int.ofNat c)) 1000 100 (.func 4) [.int .i64 (Int.ofNat l), .int .i64 d] h0 isT
theorem runs_of {l c : Nat} {s : List Nat} (h : RR l c s) : Runs l c := fun d => Eq.mpr (h d) ⟨rfl, shp_i _⟩
end Go.Den
