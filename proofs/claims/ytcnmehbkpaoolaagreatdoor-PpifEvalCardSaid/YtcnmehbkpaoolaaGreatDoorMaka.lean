/-
 Proof.
-/
import Derived.Test.YtcnmehbkpaoolaaGreatDoorLex6
import Derived.Test.YtcnmehbkpaoolaaGreatDoorByts
namespace Go.Den
open Go.RowKit
set_option maxRecDepth 100000
theorem Vb{l:List AV}{K:Prop}(h:l≠[])(hk:K):chk (Nat.ble 1 (len l)) K:=by
 cases l with
 |nil=>exact absurd rfl h
 |cons x l=>
  rw[Dl,show Nat.ble 1 (x::l).length=true from Nat.ble_eq_true_of_le (by simp)];exact hk
theorem AtP.newRow{h:H}{e:TypeId}{cs:List AV}:AtP (h.new (rowOf e cs)) h.next 0 cs:=by
 refine .row (Bg cs 0 .e) cs.length 0 e true ?_ (by omega) fun j hj=>?_
 · rw[Bs];unfold rowOf;rw[Dl]
 · rw[Cd,if_pos (by omega),List.getD_eq_getElem?_getD,List.getElem?_eq_getElem (by omega)]
   simp
theorem Ar7{h:H}{e:TypeId}{zs cs:List AV}{c:Nat}{K:H→Prop}(hz:zs.length=c)(hc:cs.length=c)(h1:1≤c)(hk:∀h',Exh h h'→h.next.nat<h'.next.nat→AtP h' h.next 0 cs→K h'):stn c (.ptr h.next 0) (.agg cs) (h.new (rowOf e zs)) K:=by
 have ha:(h.new (rowOf e zs)).at h.next=.row (Bg zs 0 .e) c 0 e true:=by
  rw[Bs];unfold rowOf;rw[Dl,hz]
 refine Wd ha (Nat.le_refl _) hc h1 (by omega) (hk _ ⟨by rw[Ug,Aw];omega,fun d hd=>?_⟩ (by rw[Ug,Aw];omega) (.row _ c 0 e true (Dd _ _ _) (by omega) fun j hj=>?_))
 · rw[Lm (fun e'=>by subst e';omega),Gw hd]
 · rw[Cd,if_pos (by omega),List.getD_eq_getElem?_getD,List.getElem?_eq_getElem (by omega)]
   simp
theorem AtP.ext{h h':H}{q:P}{o:Nat}{cs:List AV}(ha:AtP h q o cs)(hx:Exh h h')(hq:q.nat<h.next.nat):AtP h' q o cs:=ha.frame (hx.2 q hq)
theorem Atq{v:AV}{A:Prop}(h:v=.Cy∨∃b o n z t,v=.slice b o n z t):eqC v v A=A:=by
 rcases h with rfl|⟨b,o,n,z,t,rfl⟩
 · rfl
 · show Bool.rec Am A (An (An (P.beq b b) (Nat.beq o o)) (An (An (Nat.beq n n) (Nat.beq z z)) (Af5 t t)))=A
   rw[P.beq_refl,Nat.beq_refl,Nat.beq_refl,Nat.beq_refl,Wa]
   rfl
end Go.Den
