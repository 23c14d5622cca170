/-
 Proof.
-/
import Derived.Test.YtcnmehbkpaoolaaGreatDoorDenQ
import Derived.Test.YtcnmehbkpaoolaaGreatDoorNump
import Derived.Test.YtcnmehbkpaoolaaGreatDoorMaka
import Derived.Test.YtcnmehbkpaoolaaGreatDoorLaid
namespace Go.Den
open Go.RowKit
set_option maxRecDepth 100000
def Sl(v:AV):Prop:=v=.Cy∨∃b o n z t,v=.slice b o n z t
end Go.Den
noncomputable section
namespace Go.Den
open Go.RowKit
set_option maxRecDepth 100000
structure En where
 kind:Int
 text:List UInt8
 space:Bool
 file:List UInt8
 f:Int
 t:Int
 made:Bool
 sites:AV
def En.cells(x:En):List AV:=[.int .i64 x.kind,S x.text,.bool x.space,S x.file,.int .i64 x.f,.int .i64 x.t,.bool x.made,x.sites]
def FrO(B:P)(h h':H):Prop:=h.next.nat≤h'.next.nat∧∀c,c.nat<h.next.nat→c≠B→h'.at c=h.at c
section
variable{h:H}{q:P}{K:AV→Prop}{x:En}
theorem AtP.kd(ha:AtP h q 0 x.cells)(hk:K (.int .i64 x.kind)):Go.Den.ld1 (.ptr q (0+0)) h K:=ha.ld1 (j:=0) (by show 0<8;decide) hk
theorem AtP.tx(ha:AtP h q 0 x.cells)(hk:K (S x.text)):Go.Den.ld1 (.ptr q (0+1)) h K:=ha.ld1 (j:=1) (by show 1<8;decide) hk
end
theorem Aa5(a:Int)(n:Nat):Bm a (Int.ofNat n)=decide (a=(n:Int)):=by
 rw[Fz];rfl
theorem Blb{h:H}(x:En)(t:List UInt8){k:KV}(hk:∀h',Exh h h'→k (.bool (decide (x.kind=5)&&decide (x.text=t))) h'):W1 (.func 136) [.agg x.cells,S t] h k:=by
 refine A9t (n:=1) Bw (Bj2 ?_)
 unfold Aeg
 rw[St]
 refine Vb (by unfold En.cells;simp) (Bo ?_)
 have at1:AtP (h.new (rowOf 43 x.cells)) h.next 0 x.cells:=AtP.newRow
 have x1:Exh h (h.new (rowOf 43 x.cells)):=.new
 generalize h.new (rowOf 43 x.cells)=h1 at at1 x1 ⊢
 rw[Ae]
 refine at1.kd ?_
 rw[Au]
 refine Lo (b:=decide (x.text=t)) (fun k' hk'=>?_) ?_
 · rw[Ae]
   refine at1.tx ?_
   rw[De,Dg];exact hk'
 rw[Aa5];exact hk h1 x1
theorem Ce{s t:List UInt8}{l c:Nat}(hl:t.length=l)(hc:enc t=c):Bc s.length (enc s) l c=decide (s=t):=by
 subst hl hc;exact Dg
theorem FrO.exh{B:P}{h h':H}(x:Exh h h'):FrO B h h':=⟨x.1,fun c hc _=>x.2 c hc⟩
theorem An2(o:Option (Int×Bool)):∃a b,Aaf o=.tuple [.agg [.int .u64 a,.bool b],.bool o.isSome]:=by
 cases o with
 |none=>exact⟨_,_,rfl⟩
 |some p=>exact⟨_,_,rfl⟩
end Go.Den
namespace Go.Den
open Go.RowKit
set_option maxRecDepth 100000
theorem Ij{L:List En}{i:Nat}(h:i<L.length)(h':i<(L.map En.cells).length):(L.map En.cells)[i]=L[i].cells:=List.getElem_map ..
theorem Rd.tok{hE h:H}{vL:AV}{L:List En}{i:Nat}{K:AV→Prop}(hr:Rd 8 hE vL (L.map En.cells))(x:Exh hE h)(hi:i<L.length)(hk:K (.agg L[i].cells)):Dj 8 i vL fun a=>Go.Den.ldn 8 a h K:=by
 have hi':i<(L.map En.cells).length:=by rw[List.length_map];exact hi
 refine(hr.ext x).all hi' (by rw[Ij hi];rfl) ?_
 rw[Ij hi];exact hk
def RdT(h:H)(v:AV)(L:List En):Prop:=(v=.Cy∧L=[])∨Rd 8 h v (L.map En.cells)
theorem RdT.len{h:H}{v:AV}{L:List En}(hr:RdT h v L){K:Nat→Prop}:Hy v K=K L.length:=by
 rcases hr with⟨rfl,rfl⟩|hr
 · rfl
 · rw[hr.len,List.length_map]
theorem RdT.sl{h:H}{v:AV}{L:List En}(hr:RdT h v L):Sl v:=by
 rcases hr with⟨rfl,_⟩|⟨q,o,c,m,b,rfl,_⟩
 · exact .inl rfl
 · exact .inr ⟨_,_,_,_,_,rfl⟩
theorem RdT.rd{h:H}{v:AV}{L:List En}(hr:RdT h v L){i:Nat}(hi:i<L.length):Rd 8 h v (L.map En.cells):=by
 rcases hr with⟨_,rfl⟩|hr
 · exact absurd hi (Nat.not_lt_zero _)
 · exact hr
end Go.Den
