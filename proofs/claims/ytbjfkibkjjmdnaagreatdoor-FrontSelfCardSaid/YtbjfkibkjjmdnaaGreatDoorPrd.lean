/-
  A part of the proof: a text's lines, told ahead: definitions.
-/
import Derived.Test.YtbjfkibkjjmdnaaGreatDoorBsd
namespace Go.Den
open Go.RowKit
set_option maxRecDepth 100000
abbrev LnD := List AV × Nat × Nat
noncomputable def tellR (n : Nat) (st : List AV) (k : KV) (D : List LnD) : List AV → H → Prop := List.rec (motive := fun _ => List AV → H → Prop)
  (fun acc h => Hp.newK h (.row (tlist acc 0 .e) (len acc) 0 165 false) (fun pl h => Hp.newK h (.row (tlist st 0 .e) (len st) 0 3 false) (fun ps h => k (.agg [.slice pl 0 n 4 false, .nils, .slice ps 0 (len st) 1 false]) h)))
  (fun x _ ih acc h => Hp.newK h (.row (tlist x.1 0 .e) (len x.1) 0 45 false) (fun p h => ih (appL acc [.slice p 0 (Nat.div (len x.1) 8) 8 false, .int .i64 (.ofNat x.2.1), .int .i64 (.ofNat x.2.2), .bool false]) h)) D
/-- the lines, in new memory -/
noncomputable def tellP (D : List LnD) (st : List AV) (h : H) (k : KV) : Prop := tellR (len D) st k D [] h
noncomputable def cellsB (t : Tm) (l : List AV) : Nat → Bool := List.rec (motive := fun _ => Nat → Bool) (fun _ => true) (fun x _ ih j => band (avEq 4 (tget t j) x) (ih (Nat.add j 1))) l
noncomputable def rowB (h : H) (q : P) (l : List AV) (e : TypeId) : Bool := match h.at q with
  | .row t M z e' _ => band (band (Nat.beq z 0) (Nat.beq e' e)) (band (Nat.ble (len l) M) (cellsB t l 0))
  | _ => false
noncomputable def awayB (q : P) (l : List P) : Bool := List.rec true (fun x _ ih => Bool.rec ih false (Nat.beq x.nat q.nat)) l
def slB (v : AV) (K : P → Nat → Nat → Nat → Bool → Bool) : Bool := match v with
  | .slice q o n sz t => K q o n sz t
  | _ => false
noncomputable def lnB (t : Tm) (h : H) (D : List LnD) : Nat → List P → Bool := List.rec (motive := fun _ => Nat → List P → Bool) (fun _ _ => true)
  (fun x _ ih j seen => slB (tget t j) fun q o n sz tg => band (band (band (Nat.beq o 0) (Nat.beq n (Nat.div (len x.1) 8))) (band (Nat.beq sz 8) (bnot tg)))
    (band (cellsB t [.int .i64 (.ofNat x.2.1), .int .i64 (.ofNat x.2.2), .bool false] (Nat.add j 1)) (band (rowB h q x.1 45) (band (awayB q seen) (ih (Nat.add j 4) (q :: seen)))))) D
noncomputable def chkB (D : List LnD) (st : List AV) (v : AV) (h : H) : Bool := match v with
  | .agg [.slice pl o n sz tg, .nils, .slice ps o2 n2 sz2 tg2] => (match h.at pl with
    | .row t M z e _ => band (band (band (Nat.beq o 0) (band (Nat.beq n (len D)) (band (Nat.beq sz 4) (bnot tg)))) (band (Nat.beq o2 0) (band (Nat.beq n2 (len st)) (band (Nat.beq sz2 1) (bnot tg2)))))
      (band (band (Nat.beq z 0) (band (Nat.beq e 165) (Nat.ble (Nat.mul (len D) 4) M))) (band (lnB t h D 0 [pl, ps]) (band (rowB h ps st 3) (awayB pl [ps]))))
    | _ => false)
  | _ => false
noncomputable def chkP (D : List LnD) (st : List AV) : KV := fun v h => cnd (chkB D st v h) True False
noncomputable def plainL (l : List AV) : Bool := List.rec true (fun x _ ih => band (plain x) ih) l
noncomputable def plainD (D : List LnD) : Bool := List.rec true (fun x _ ih => band (plainL x.1) ih) D
end Go.Den
