/-
 Proof.
-/
import Derived.Test.YtmgalljhidgnoaaGreatDoorSml
import Derived.Test.YtmgalljhidgnoaaGreatDoorCrk
import Derived.Test.YtmgalljhidgnoaaGreatDoorVls
import Derived.Test.YtmgalljhidgnoaaGreatDoorLxb
namespace Go.Den
open Go.RowKit
set_option maxRecDepth 100000
theorem Bfy{a:H}{b c d:P}{x:List UInt8}(tb:Hx a b c d [])(f:x.length≤2048){g:KV}
 (h:∀i,CE (λj=>j=c∨j=d) a i→Hx i b c d [(GR,x)]→g (.int .i64 (Int.ofNat 0)) i):W1 (.func 12) [.ptr b 0,S GR,S x] a g:=by
 refine w12 (n:=1) AJ (g12 ?_);unfold Xh;rw[Adt,IG,AL];refine AR rfl ?_;refine Ex Ahy ?_;rw[AL];refine AR rfl ?_;rw[Aj,Ad,Ae];refine tb.row.Z (j:=1) (by show 1<3;decide) ?_;refine tb.get GR λv k=>?_;rw[Dw,Dt,AL];refine AR rfl ?_;rw[Aj,Ad,Ae];refine tb.row.Z (j:=1) (by show 1<3;decide) ?_;obtain⟨l,m,n,o,p⟩:=tb.files;show oK (Hr env [83] (.map c) a) _;rw[Arv,n];show oK (some (.int .i64 (.ofNat (len l)),a)) _;rw[Ad,AG,BU,p,Gc];refine AR (decide_eq_false (by show¬_≤0;omega)) ?_;refine c28 f λq r s t=>?_;rw[Dw,Dt,AG];refine c29 (tb.ext s) (p:=GR) rfl t λu w y=>?_;rw[AG];exact h u (s.DV.trans w) y
theorem c5k{b:H}{v:U}{c:List UInt8}(d:G≤b.next.nat)(g:Rd 2 b v [[S GR,S c]])(h:c.length≤2048){i:KV}
 (j:∀k l m n p,AP b k→Hx k l m n [(GR,c)]→i (.tuple [.ptr l 0,.ptr p 0,.bool true]) k):W1 (.func 5) [.Af,v] b i:=by
 refine w5 (n:=3) AJ (g5 ?_);unfold fK;refine c11 λs l m n t u w x y=>?_;rw[Dw,Dt,AG,Asb,Ad,CB];refine CA (by simp) (BX ?_);have d:AP s (s.new (rowOf 60 [.Af,.Af,.Af,.Af])):=.new;have i:(s.new (rowOf 60 [.Af,.Af,.Af,.Af])).next.nat=s.next.nat+1:=Bd;have k:(s.new (rowOf 60 [.Af,.Af,.Af,.Af])).at s.next=.row (Ai [.Af,.Af,.Af,.Af] 0 .e) 4 0 60 true:=AS _ _;generalize s.new (rowOf 60 [.Af,.Af,.Af,.Af])=h2 at d k i ⊢;refine F7 (λ_=>?_) (λq=>by cases q);rw[Adt,IG,AL];refine AR rfl ?_;have p:=y.ext d;have u:=t.trans d;have i:=y.nT;have d:=y.nF;have i:=y.nV;have d:=t.1;have i:∀{a y:P},a.nat≠y.nat→a≠y:=λq e=>q (by rw[e]);refine Alf ?_;unfold Z2;rw[g.len];refine By rfl ?_;have rd:∀{K:U→Prop}(_:∀q o,q.nat<b.next.nat→Dl b q o [S GR,S c]→K (.ptr q o)),Bo (Int.ofNat 0) λd=>A7 2 d v K:=λt=>Cy (g.elem (i:=0) Nat.one_pos λq o y _ a0=>t q o y a0);refine rd λt y a1 a2=>?_;rw[Ae];refine(a2.ext u a1).Z (j:=0) (by show 0<2;decide) ?_;show Bv (S GR) _;rw[CR];refine rd λt y a1 a2=>?_;rw[Ae];refine(a2.ext u a1).Z (j:=1) (by show 1<2;decide) ?_;show Bv (S c) _;rw[CR];refine rd λq3 t y a1=>?_;rw[Ae];refine(a1.ext u y).Z (j:=0) (by show 0<2;decide) ?_;show Bv (S GR) _;rw[CR];refine rd λq4 t a2 a3=>?_;rw[Ae];refine(a3.ext u a2).Z (j:=1) (by show 1<2;decide) ?_;show Bv (S c) _;rw[CR];refine Bfy p h λt a4 a5=>?_;rw[AG];have X3:AP b t:=a4.PX u λp q=>by
  rcases q with rfl|rfl
  · exact w
  · exact x
 refine(a1.ext X3 y).Z (j:=0) (by show 0<2;decide) ?_;show Bv (S GR) _;rw[CR];refine C2 (.inl ⟨_,_,rfl⟩) ?_;refine(a3.ext X3 a2).Z (j:=1) (by show 1<2;decide) ?_;show Bv (S c) _;rw[CR];refine C2 (.inl ⟨_,_,rfl⟩) ?_;have u:m≠s.next:=i (by omega);have w:n≠s.next:=i (by omega);have x:l≠s.next:=i (by omega);have y:t.at s.next=.row (Ai [.Af,.Af,.Af,.Af] 0 .e) 4 0 60 true:=by rw[a4.2 _ (by omega) (λe=>e.elim (λe=>u e.symm) λe=>w e.symm)];exact k
 show W1 _ [_,S GR,_] _ _;rw[←sA];refine Bfk (by omega) y h ?_;rw[AG];refine AR (cO _) (Bx (by omega) ?_);have X4:CE (λp=>p=s.next) t (t.put s.next .dead):=.put rfl;have XX:AP b (t.put s.next .dead):=X4.PX X3 λp q=>by rw[q];omega
 have T4:Hx (t.put s.next .dead) l m n [(GR,c)]:=by
  obtain⟨i,k,h,b,a1⟩:=a5.files;obtain⟨a2,a3,a4,a6⟩:=a5.fV;have no:∀q cs,Dl t q 0 cs→cs.length=5→¬q=s.next:=λq cs ⟨p,d,f,t,_⟩ a7 e=>by
   subst e;rcases f with⟨d,z,p,t,a0,_⟩|a0
   · rw[y] at a0;cases a0;omega
   · rw[y] at a0;cases a0
  exact⟨a5.row.frame (AQ x),a5.nT,a5.nF,a5.nV,a5.ne,⟨i,k,by rw[AQ u];exact h,b.mono λv c r=>r.DV X4 no,a1⟩,⟨a2,a3,by rw[AQ w];exact a4,a6⟩⟩
 refine Alf ?_;unfold Z2;rw[g.len];refine AR rfl ?_;exact j _ l m n s.next XX T4
end Go.Den
