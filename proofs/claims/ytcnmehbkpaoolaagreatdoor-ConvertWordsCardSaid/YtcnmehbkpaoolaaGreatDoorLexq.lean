/-
 A part of the proof.
-/
import Derived.Test.YtcnmehbkpaoolaaGreatDoorLexp
namespace Go.Lx
abbrev Rn := UInt8 × Nat × Nat
def bts (l : List Rn) : B8 := l.map (·.1)
def Vu : B8 := [61, 47, 39, 40, 41, 33, 60, 62, 45]
def Ac7 : B8 := [35, 92, 94, 91, 93, 124, 123, 125, 126]
def tri (c : UInt8) : Option UInt8 := (Vu.zip Ac7).find? (fun p => p.1 == c) |>.map (·.2)
def Cw : Nat → B8 → List Rn
 | _, [] => []
 | i, [a] => [(a, i, i + 1)]
 | i, [a, b] => [(a, i, i + 1), (b, i + 1, i + 2)]
 | i, a :: b :: c :: r => if a = 63 ∧ b = 63 then (match tri c with
  | some d => (d, i, i + 3) :: Cw (i + 3) r
  | none => (a, i, i + 1) :: Cw (i + 1) (b :: c :: r))
  else (a, i, i + 1) :: Cw (i + 1) (b :: c :: r)
def Hy : List Rn → List Rn
 | [] => []
 | [x] => [x]
 | x :: y :: r => if x.1 = 92 ∧ y.1 = 10 then Hy r else x :: Hy (y :: r)
def Eu (s : B8) : List Rn :=
 if s ≠ [] ∧ ((Hy (Cw 0 s)).getLast?.map (·.1)) ≠ some 10 then Hy (Cw 0 s) ++ [(10, s.length, s.length)] else Hy (Cw 0 s)
structure A8v where
 kind : Nat
 text : B8
 space : Bool
 f : Nat
 t : Nat
structure Ao3 where
 toks : List A8v
 f : Nat
 t : Nat
 opn : Bool
structure DgF where
 code : Nat
 f : Nat
 t : Nat
def Bdr (l : List Rn) (i : Nat) : Nat := (l.getD i (0, 0, 0)).2.1
def toR (l : List Rn) (i : Nat) : Nat := (l.getD i (0, 0, 0)).2.2
def A2o (l : List Rn) (sp : Bool) : A8v := ⟨(Fv (bts l)).1, (bts l).take (Fv (bts l)).2.1, sp, Bdr l 0, toR l ((Fv (bts l)).2.1 - 1)⟩
def Bk6 (n : Nat) (out : List Ao3) : List Ao3 := match out.getLast? with
 | none => out
 | some x => out.dropLast ++ [{ x with t := n }]
def Ay3 (n : Nat) : Nat → List Rn → List A8v → Nat → Bool → List Ao3 → List DgF → List Ao3 × List DgF
 | 0, _, _, _, _, out, ds => (out, ds)
 | _ + 1, [], _, _, _, out, ds => (Bk6 n out, ds)
 | k + 1, r :: l, toks, fr, sp, out, ds =>
  if r.1 = 10 then Ay3 n k l [] r.2.2 false (out ++ [⟨toks, fr, r.2.2, false⟩]) ds
  else if Fg r.1 then Ay3 n k l toks fr true out ds
  else match Rp (bts (r :: l)) with
   | some (_, true) => (out ++ [⟨toks, fr, n, true⟩], ds ++ [⟨1, r.2.1, toR (r :: l) 1⟩])
   | some (j, false) => Ay3 n k ((r :: l).drop j) toks fr true out ds
   | none => Ay3 n k ((r :: l).drop (Fv (bts (r :: l))).2.1) (toks ++ [A2o (r :: l) sp]) fr false out
    (if (Fv (bts (r :: l))).2.2 = true then ds ++ [⟨2, (A2o (r :: l) sp).f, (A2o (r :: l) sp).t⟩] else ds)
def Pv : Nat → B8 → Bool → List (Nat × B8 × Bool)
 | 0, _, _ => []
 | _ + 1, [], _ => []
 | k + 1, x :: s, sp =>
  if x = 10 then []
  else if Fg x then Pv k s true
  else match Rp (x :: s) with
   | some (_, true) => []
   | some (j, false) => Pv k ((x :: s).drop j) true
   | none => ((Fv (x :: s)).1, (x :: s).take (Fv (x :: s)).2.1, sp) :: Pv k ((x :: s).drop (Fv (x :: s)).2.1) false
end Go.Lx
