/-
 Proof.
-/
import Derived.Test.YtcnmehbkpaoolaaGreatDoorPrem
import Derived.Test.YtcnmehbkpaoolaaGreatDoorToks
namespace Go.Den
open Go.RowKit
set_option maxRecDepth 100000
theorem Bce {T : Tm} {n : Nat} {e : TypeId} {cs : List AV} (hc : Bq T n 0 = cs) (hn : cs.length = n) (h : H) : Rd 1 (h.new (.row T n 0 e true)) (.slice h.next 0 n 1 true) (cs.map fun c => [c]) := by
 subst hn
 refine ⟨h.next, 0, T, cs.length, 0, e, true, true, by rw [List.length_map], by rw [Bc]; omega, Aw _ _, by rw [List.length_map]; omega, fun i hi => ?_⟩
 have hi' : i < cs.length := by rw [List.length_map] at hi; exact hi
 rw [List.getElem_map]
 refine ⟨rfl, fun j hj => ?_⟩
 have hj : j = 0 := by simp at hj; exact hj
 subst hj
 have h1 : (Bq T cs.length 0)[i]? = some cs[i] := by
  rw [hc, List.getElem?_eq_getElem hi']
 rw [Fz, List.getElem?_map, List.getElem?_range hi'] at h1
 have h2 := Option.some.inj h1
 show Ba T (0 + i * 1 + 0) = _
 rw [show 0 + i * 1 + 0 = 0 + i by omega]; exact h2
theorem Bcf {T : Tm} {n : Nat} {e : TypeId} {row : List (List UInt8)} (hc : Bq T n 0 = row.map fun s => S s) (hn : row.length = n) (h : H) : Rd 1 (h.new (.row T n 0 e true)) (.slice h.next 0 n 1 true) (es row) := by
 have := Bce (e := e) hc (by rw [List.length_map]; exact hn) h
 rw [List.map_map] at this
 exact this
end Go.Den
namespace Go.Den
open Go.RowKit
set_option maxRecDepth 100000
abbrev Lh := Go.Pre.Tok
def tk (x : Ee) : Lh := (x.kind.toNat, x.text)
section
variable {hE : H} {L : List Ee} {vL : AV} {B : P} (hr : RdT hE vL L) (hl : L.length ≤ 1000000)
include hr hl
end
end Go.Den
