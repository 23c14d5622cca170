/-
  A part of the proof.
-/
import Derived.Test.YtcnmehbkpaoolaaGreatDoorLex7
import Derived.Lib.MakeNoZero
namespace Go.Den
open Go.RowKit
set_option maxRecDepth 100000
theorem Bau {i : Nat} (h : i < 9223372036854775807) : wrap .i64 (Cf (Int.ofNat i) (Int.ofNat 1)) = Int.ofNat (i + 1) := by
  rw [Tv, show Int.ofNat i + Int.ofNat 1 = Int.ofNat (i + 1) from rfl]
  exact Dv (by omega)
end Go.Den
namespace Go.Den
open Go.RowKit
set_option maxRecDepth 100000
def Mb : List UInt8 := [48, 49, 50, 51, 52, 53, 54, 55, 56, 57, 97, 98, 99, 100, 101, 102]
theorem Ai4 {a b : Nat} {K : Int → Prop} (ha : a ≤ 9223372036854775807) (hb : b ≤ 9223372036854775807) (hk : K (Int.ofNat (a &&& b))) : Ml Nat.land .i64 (Int.ofNat a) (Int.ofNat b) K := by
  show (Bool.rec False (fN (Nat.land a b) (fun n => K (.ofNat n))) (Ah (Nat.ble a (intMax .i64)) (Nat.ble b (intMax .i64))) : Prop)
  rw [Nat.ble_eq_true_of_le (show a ≤ intMax .i64 from ha), Nat.ble_eq_true_of_le (show b ≤ intMax .i64 from hb)]
  exact hk
theorem Ao2 (s set : List UInt8) : s.take (Sc s set) = s.takeWhile (· ∈ set) := (List.prefix_iff_eq_take.1 (List.takeWhile_prefix _)).symm
theorem Avf {s set : List UInt8} {x : UInt8} {n : Nat} (hn : n ≤ Sc s set) (hx : x ∈ s.take n) : x ∈ set := by
  have h1 : x ∈ s.take (Sc s set) := List.take_subset_take_left _ hn hx
  rw [Ao2] at h1
  have := List.all_eq_true.1 List.all_takeWhile x h1
  simpa using this
end Go.Den
namespace Go.Den
open Go.RowKit
set_option maxRecDepth 100000
theorem Bat {n : Nat} (h1 : 1 ≤ n) (h2 : n ≤ 9223372036854775807) : wrap .i64 (Kv (Int.ofNat n) (Int.ofNat 1)) = Int.ofNat (n - 1) := by
  rw [Qp, show Int.ofNat n - Int.ofNat 1 = Int.ofNat (n - 1) by show (n : Int) - ((1 : Nat) : Int) = ((n - 1 : Nat) : Int); omega]
  exact Dv (by omega)
end Go.Den
