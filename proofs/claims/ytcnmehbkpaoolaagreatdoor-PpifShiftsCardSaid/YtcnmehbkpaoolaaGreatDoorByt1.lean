/-
  A part of the proof.
-/
import Derived.Test.YtcnmehbkpaoolaaGreatDoorFlts
noncomputable section
namespace Go.Den
open Go.RowKit
set_option maxRecDepth 100000
theorem P.beq_refl : ∀ p : P, P.beq p p = true
  | .z => rfl
  | .l p => P.beq_refl p
  | .r p => P.beq_refl p
section
variable {h : H} {o : Ob FT} {b c : P}
theorem Gl (hb : b.nat < h.next.nat) : (h.new o).at b = h.at b := by
  rw [Gv, if_neg (fun e => by subst e; exact absurd hb (Nat.lt_irrefl _))]
theorem Fg (hc : c ≠ b) : (h.put b o).at c = h.at c := by rw [Qa, if_neg hc]
theorem Bq : (h.new o).next.nat = h.next.nat + 1 := P.Fc _
theorem Je : (h.put b o).next = h.next := rfl
end
def ub (x : UInt8) : AV := .int .u8 (Int.ofNat x.toNat)
def ubs (l : List UInt8) : List AV := l.map ub
theorem Ahw : ∀ l : List UInt8, Ff (ubs l) = some (l.map (·.toNat))
  | [] => rfl
  | x :: l => by
    show (Option.rec none (fun n => Option.rec none (fun l => Bool.rec none (some (n :: l)) (Nat.ble n 255)) (Ff (ubs l))) (byteOfCell (ub x)) : Option (List Nat)) = _
    rw [show byteOfCell (ub x) = some x.toNat from rfl, Ahw l]
    show (Bool.rec none (some (x.toNat :: l.map (·.toNat))) (Nat.ble x.toNat 255) : Option (List Nat)) = _
    rw [Nat.ble_eq_true_of_le (by have := x.toNat_lt; omega)]; rfl
theorem Amb : ∀ l : List UInt8, Sx (l.map (·.toNat)) = enc l
  | [] => rfl
  | x :: l => by
    show x.toNat + 256 * Sx (l.map (·.toNat)) = _
    rw [Amb l]; rfl
theorem A0q (l : List UInt8) : strOf (l.map (·.toNat)) = S l := by
  show AV.str (len (l.map (·.toNat))) (Sx (l.map (·.toNat))) = _
  rw [Df, List.length_map, Amb]
abbrev TB : TypeId := 5
def ei8 : TI := ⟨.int .u8, 1, 1, [.int .u8 (.ofNat 0)], false, true, []⟩
def T1 (n : Int) : Tm := Aq [.int .u8 n] 0 (Aq [.int .u8 (.ofNat 0)] 0 .e)
theorem A6r (n : Int) (h : H) : Ak env 115 (fun e ei => Ae 1 [(0, .int .u8 n)] h e ei) = some (.slice h.next 0 1 1 true, h.new (.row (T1 n) 1 0 TB true)) := by kernel_rfl
theorem Bc6 (x y : AV) (h : H) : Bw env .append [115, 115] [x, y] h = Gk (some false) x y h TB ei8 := by kernel_rfl
def Eu (t : Tm) (l : List UInt8) : Prop := ∀ i (hi : i < l.length), Cg t i = ub l[i]
theorem Eu.get {t : Tm} {l : List UInt8} (hc : Eu t l) : Bf t l.length 0 = ubs l := by
  rw [Gj]
  apply List.ext_getElem
  · simp [ubs]
  · intro i h1 h2
    have hi : i < l.length := by simpa using h1
    simp only [List.getElem_map, List.getElem_range, ubs, Nat.zero_add]
    exact hc i hi
theorem Eu.app {t : Tm} {l m : List UInt8} (hc : Eu t l) : Eu (Aq (ubs m) l.length t) (l ++ m) := by
  intro i hi
  rw [Bl]
  by_cases h : i < l.length
  · rw [if_neg (by omega), hc i h, List.getElem_append_left h]
  · have h1 : i - l.length < m.length := by rw [List.length_append] at hi; omega
    rw [if_pos (by constructor; omega; rw [ubs, List.length_map]; omega), List.getD_eq_getElem?_getD, ubs, List.getElem?_map, List.getElem?_eq_getElem h1, List.getElem_append_right (by omega)]
    rfl
theorem Eu.new (m : List UInt8) (t : Tm) : Eu (Aq (ubs m) 0 t) m := Eu.app (l := []) (t := t) (fun _ h => absurd h (Nat.not_lt_zero _))
theorem Bax {n : Nat} (hn : n ≤ 1099511627776) : Et ei8 n = true := by
  have e : Et ei8 n = Ah (Ah true true) (Ah (Nat.ble n 1099511627776) (Nat.ble (Nat.mul n 1) 140737488355328)) := rfl
  rw [e, Nat.ble_eq_true_of_le hn, Nat.ble_eq_true_of_le (show Nat.mul n 1 ≤ 140737488355328 by show n * 1 ≤ _; omega)]; rfl
theorem Nh {b : P} {o n z : Nat} {t : Bool} {K : Nat → Prop} : Gg (.slice b o n z t) K = K n := rfl
theorem Anp {K : Nat → Prop} : Gg .Cd K = K 0 := rfl
theorem Bz {b : P} {o : Nat} {h : H} : Cz (.ptr b o) h = some (.ptr b o, h) := rfl
theorem Amf {b : P} {K : AV → Prop} : Ao 0 (.ptr b 0) K = K (.ptr b 0) := rfl
theorem An9 (h : H) : ∀ (l : List UInt8), Dp h 1 (S l) = some (l.length, ubs l) := fun l => by
  show (some (l.length, byteCells l.length (enc l)) : Option (Nat × List AV)) = _
  have : ∀ l : List UInt8, byteCells l.length (enc l) = ubs l := by
    intro l
    induction l with
    | nil => rfl
    | cons x l ih =>
      obtain ⟨h1, h2⟩ := Qt x l
      show (.int .u8 (.ofNat (Nat.mod (enc (x :: l)) 256)) :: byteCells l.length (Nat.div (enc (x :: l)) 256) : List AV) = _
      rw [h1, h2, ih]; rfl
  rw [this]
theorem Bfq (x y : AV) (h : H) : Bw env .unsafeString [225, 3] [x, y] h = Up env x (Bn y) h := by kernel_rfl
theorem isB : isByte env TB = true := by kernel_rfl
end Go.Den
