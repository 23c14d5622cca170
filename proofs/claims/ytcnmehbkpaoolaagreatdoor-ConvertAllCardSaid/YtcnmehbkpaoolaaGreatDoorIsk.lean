/-
 Proof.
-/
import Derived.Test.YtcnmehbkpaoolaaGreatDoorLaid
import Derived.Test.YtcnmehbkpaoolaaGreatDoorLex7
import Derived.Test.YtcnmehbkpaoolaaGreatDoorLex6
import Derived.Test.YtcnmehbkpaoolaaGreatDoorConz
namespace Go.Den
set_option maxRecDepth 100000
theorem Aqa{F:FuncId}{args:List AV}{r:AV}(h:calls 100000 100000 (.func F) args h1 (fun v _=>v=r)=(r=r)):Pure PP G h1 F args r:=
 Ab4 (Km 100000 100000) (h.mpr rfl)
theorem c15:Pure PP G h1 15 [] (.bool true):=Aqa (by kernel_rfl)
end Go.Den
noncomputable section
namespace Go.Den
open Go.RowKit
set_option maxRecDepth 100000
def hW:H:=h1.new (rowOf 96 Jy)
def TW:Tm:=Aj (Ls (pOf 15)) 0 .e
theorem zw1{n m:Nat}{F:Fn}{a:List AV}{h:H}{k:KV}{Q:Prop}(e:calls n m F a h k=Q)(q:Q):W1 F a h k:=Ab4 (Km n m) (e.mpr q)
theorem Avd:W1 (.func 74) [.ptr (pOf 13) 0,.func (.func 75) [] [.ptr hW.next 0]] (hW.new (rowOf 107 [.ptr (pOf 13) 0])) (fun _ h'=>h'.at (pOf 13)=.row TW 4 0 96 true∧h'.at hW.next=rowOf 107 [.ptr (pOf 13) 0]∧h'.at (pOf 15)=.map Lc 44):=by
 have e:calls 100000 100000 (.func 74) [.ptr (pOf 13) 0,.func (.func 75) [] [.ptr hW.next 0]] (hW.new (rowOf 107 [.ptr (pOf 13) 0])) (fun _ h'=>h'.at (pOf 13)=.row TW 4 0 96 true∧h'.at hW.next=rowOf 107 [.ptr (pOf 13) 0]∧h'.at (pOf 15)=.map Lc 44)
  =((.row TW 4 0 96 true:Ob FT)=.row TW 4 0 96 true∧(rowOf 107 [.ptr (pOf 13) 0]:Ob FT)=rowOf 107 [.ptr (pOf 13) 0]∧(.map Lc 44:Ob FT)=.map Lc 44):=by kernel_rfl
 exact zw1 e ⟨rfl,rfl,rfl⟩
theorem Blj:Bn TW 3=.map (pOf 15):=by unfold TW;rw[Av];rfl
theorem Bc5(h:H):Bo env (env.ty 96) [] h=some (.agg Jy,h):=by kernel_rfl
theorem c20(s:List UInt8):Pure PP G h1 20 [S s] (.bool (decide (s∈kws))):=by
 refine w20 (n:=1) Bs (g20 ?_)
 unfold Ant
 rw[Bc5,Ad,Vt]
 refine Xj (by unfold Jy;simp) (Dt ?_)
 refine Apg (hs:=hW) (B:=h1.next) (q:=pOf 15) (T:=TW) (n:=4) (e:=96) (w:=true) s Avd Blj (Nat.le_refl _) fun h' _ _=>?_
 rw[Bt]
end Go.Den
