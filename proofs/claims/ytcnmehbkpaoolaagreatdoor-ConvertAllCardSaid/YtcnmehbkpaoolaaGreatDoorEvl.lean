/-
 Proof.
-/
import Derived.KernelRfl
import Derived.Test.YtcnmehbkpaoolaaGreatDoorLex7
import Derived.Test.YtcnmehbkpaoolaaGreatDoorLex6
import Derived.Test.YtcnmehbkpaoolaaGreatDoorConz
namespace Go.Den
open Go.RowKit
set_option maxRecDepth 100000
theorem Bix{T:Tm}{n:Nat}{e:TypeId}{cs:List AV}(hc:Da T n 0=cs)(hn:cs.length=n)(h:H):Rd 1 (h.new (.row T n 0 e true)) (.slice h.next 0 n 1 true) (cs.map fun c=>[c]):=by
 subst hn
 refine .row h.next 0 T cs.length 0 e true true (by rw[List.length_map]) (by rw[Bh];omega) (Ax _ _) (by rw[List.length_map];omega) fun i hi=>?_
 have hi':i<cs.length:=by rw[List.length_map] at hi;exact hi
 rw[List.getElem_map]
 refine⟨rfl,fun j hj=>?_⟩
 have hj:j=0:=by simp at hj;exact hj
 subst hj
 have h1:(Da T cs.length 0)[i]? =some cs[i]:=by
  rw[hc,List.getElem?_eq_getElem hi']
 rw[It,List.getElem?_map,List.getElem?_range hi'] at h1
 have h2:=Option.some.inj h1
 show Bn T (0+i*1+0)=_
 rw[show 0+i*1+0=0+i by omega];exact h2
theorem Baj{T:Tm}{n:Nat}{e:TypeId}{row:List (List UInt8)}(hc:Da T n 0=row.map fun s=>S s)(hn:row.length=n)(h:H):Rd 1 (h.new (.row T n 0 e true)) (.slice h.next 0 n 1 true) (es row):=by
 have:=Bix (e:=e) hc (by rw[List.length_map];exact hn) h
 rw[List.map_map] at this
 exact this
end Go.Den
