/-
 Proof.
-/
import Derived.Test.YtmgalljhidgnoaaGreatDoorPra
open List renaming length_append → o7, length_cons → l6, not_mem_nil → yT, mem_cons → vw, drop_drop → yC, length → yI, length_drop → yt, drop_append_of_le_length → zj, drop_of_length_le → zo, map_cons → yU, mem_cons_self → yS, mem_cons_of_mem → xK, mem_of_mem_drop → zk, drop_succ_cons → zi, mem_append → xI
open Nat renaming succ_mul → wK, le_refl → vE
namespace Go.Den
open Go.RowKit
open Go.Lx (Rn AA BQ El Ih Cs EI)
set_option maxRecDepth 100000
def Hu(w:List UInt8):List UInt8:=[120,10,35,112,114,97,103,109,97,32]++(w++[10])
def B0(w:List UInt8):Nat→List UInt8
 |0=>[]
 |n+1=>Hu w++B0 w n
theorem Gy(w:List UInt8):(Hu w).length=w.length+11:=by unfold Hu;simp only[o7,l6,List.length_nil];omega
theorem Hb(w:List UInt8):∀n,(B0 w n).length=n*(w.length+11)
 |0=>by simp[B0]
 |n+1=>by show(Hu w++B0 w n).length=_;rw[o7,Hb w n,Gy,wK];omega
theorem OG(w:List UInt8):∀n,B0 w n++Hu w=Hu w++B0 w n
 |0=>by simp[B0]
 |n+1=>by show Hu w++B0 w n++Hu w=Hu w++(Hu w++B0 w n);rw[List.append_assoc,OG w n]
section
variable{L:List Rn}{s post:List UInt8}
theorem MO{a b:Nat}{c:Bool}(d:a<L.length)(f:bt (AA L) a≠10)(g:D8 (bt (AA L) a)=false)(h:EI ((AA L).drop a)=none):Br L (b+1) a c=((a,c)::(Br L b (a+mL L a) false).1,(Br L b (a+mL L a) false).2):=by
 have e:BM L (L.length+2) a c false=(a,c,false):=GN d f g h
 conv=>lhs;unfold Br
 rw[e,if_neg (λq=>q.elim (λq=>by have:L.length≤a:=q;omega) f)]
theorem fq{a b:Nat}{c:Bool}(d:bt (AA L) a=10):Br L (b+1) a c=([],a,false):=by
 have e:BM L (L.length+2) a c false=(a,c,false):=Em (.inr d)
 conv=>lhs;unfold Br
 rw[e,if_pos (.inr d)]
theorem OC{a m k:Nat}{b:Bool}(h:Go.Lx.B7 ((AA L).drop a)=(k,m,b)):mL L a=m:=by unfold mL;rw[h]
theorem VY(t:List UInt8):Go.Lx.B7 (120::10::t)=(1,1,false):=NL (s:=[]) (t:=10::t) (by decide) (λa b=>by
 have:a=10:=by simpa using b.symm
 subst this;decide) (λa b=>absurd b yT)
theorem Vs(t:List UInt8):Go.Lx.B7 (35::112::t)=(5,1,false):=by kernel_rfl
theorem VJ(t:List UInt8):Go.Lx.B7 (112::114::97::103::109::97::32::t)=(1,6,false):=NL (s:=[114,97,103,109,97]) (t:=32::t) (by decide) (λa b=>by
 have:a=32:=by simpa using b.symm
 subst this;decide) (λa b=>by
 simp only[vw,yT,or_false] at b;rcases b with rfl|rfl|rfl|rfl|rfl<;>exact .inl (by decide))
theorem MZ{x:UInt8}{r:List UInt8}(h:x≠47):EI (x::r)=none:=by unfold EI;rw[if_pos (by show x≠47;exact h)]
theorem rv(b:AA L=s){a:Nat}{c:List UInt8}(d:s.drop a=Hu c++post)(k:Nat):Br L (k+2) a false=([(a,false)],a+1,false):=by
 have d:s.drop a=120::10::([35,112,114,97,103,109,97,32]++(c++[10])++post):=d;have f:=Di d;have g:=Di f.2.2;have h:a<L.length:=by rw[←Bj,b];exact f.2.1
 have i:mL L a=1:=OC (k:=1) (b:=false) (by rw[b,d];exact VY _);rw[MO h (by rw[b,f.1];decide) (by rw[b,f.1];decide) (by rw[b,d];exact MZ (by decide)),i,fq (by rw[b];exact g.1)]
theorem ug(b:AA L=s){a:Nat}{c:List UInt8}(d:Gb c)(f:s.drop a=Hu c++post)(k:Nat)(g:c.length+1<k):∃h,Br L (k+2) (a+2) false=((a+2,false)::(a+3,false)::h,a+10+c.length,(Br L k (a+9) false).2.2)∧h.map (Mp L)=E2 false (c.length+2) (32::c):=by
 have h0:s.drop a=[120,10]++(35::112::([114,97,103,109,97,32]++(c++[10])++post)):=f;have i:s.drop (a+2)=35::112::([114,97,103,109,97,32]++(c++[10])++post):=by rw[←yC,h0];rfl
 have j:=Di i;have l:s.drop (a+3)=112::114::97::103::109::97::32::(c++[10]++post):=j.2.2;have d3:=Di l;have m:s.drop (a+9)=(32::c)++10::post:=by rw[show a+9=a+3+6 by omega,←yC,l];show 32::(c++[10]++post)=_;simp
 have n:a+2<L.length:=by rw[←Bj,b];exact j.2.1
 have o:a+3<L.length:=by rw[←Bj,b];exact d3.2.1
 have p:mL L (a+2)=1:=OC (k:=5) (b:=false) (by rw[b,i];exact Vs _);have q:mL L (a+3)=6:=OC (k:=1) (b:=false) (by rw[b,l];exact VJ _);obtain⟨r,t⟩:=Aia (post:=post) b (c.length+1) (32::c) (a+9) k false (vE _) m (λu v=>by
  rcases vw.1 v with e|e
  · exact .inr e
  · exact d u e) g
 refine⟨(Br L k (a+9) false).1,?_,t⟩;rw[MO n (by rw[b,j.1];decide) (by rw[b,j.1];decide) (by rw[b,i];exact MZ (by decide)),p,MO o (by rw[b,d3.1];decide) (by rw[b,d3.1];decide) (by rw[b,l];exact MZ (by decide)),q];show((a+2,false)::(a+3,false)::(Br L k (a+9) false).1,(Br L k (a+9) false).2)=_;rw[show(Br L k (a+9) false).2=((Br L k (a+9) false).2.1,(Br L k (a+9) false).2.2) from rfl,r];rw[show a+9+(32::c).length=a+10+c.length by simp only[l6];omega]
def PgT(L:List Rn)(w:List UInt8)(a i:Nat)(T:List (Nat×Bool)):Prop:=
 (i%2=0∧T=[(a+i / 2*(w.length+11),false)])∨(i%2=1∧∃T',T=(a+i / 2*(w.length+11)+2,false)::(a+i / 2*(w.length+11)+3,false)::T'∧T'.map (Mp L)=E2 false (w.length+2) (32::w))
theorem aj(b:AA L=s){c:List UInt8}(d:Gb c)(f:c.length+3<L.length+2)(N:Nat):∀(n a g fr:Nat),s.drop a=B0 c n→2*n<g→((DJ L N g a fr).map (·.1)).length=2*n∧∀h i,((DJ L N g a fr).map (·.1))[h]? =some i→PgT L c a h i
 |0,a,g,fr,j,k=>by
  obtain⟨g,rfl⟩:∃l,g=l+1:=⟨g-1,by omega⟩;have:L.length≤a:=by have:=congrArg yI j;rw[yt,←b,Bj] at this;have e:(B0 c 0).length=0:=rfl;omega
  unfold DJ;rw[if_pos this];exact⟨rfl,λh i e=>by simp at e⟩
 |n+1,a,g,fr,j,k=>by
  obtain⟨g,rfl⟩:∃l,g=l+2:=⟨g-2,by omega⟩;have j:s.drop a=Hu c++B0 c n:=j;have m:=congrArg yI j;rw[yt,o7,Gy,←b,Bj] at m;have o:=rv b j L.length;obtain⟨T',p,r⟩:=ug b d j L.length (by omega);have t:s.drop (a+(c.length+11))=B0 c n:=by rw[←yC,j,zj (by rw[Gy];exact vE _),zo (by rw[Gy];exact vE _)];rfl
  have u:∃v,(DJ L N (g+2) a fr).map (·.1)=[(a,false)]::((a+2,false)::(a+3,false)::T')::(DJ L N g (a+(c.length+11)) v).map (·.1):=by
   refine⟨MC L N (a+10+c.length),?_⟩
   conv=>lhs;unfold DJ
   rw[if_neg (by omega),o,yU]
   conv=>lhs;unfold DJ
   rw[if_neg (by show¬L.length≤a+1+1;omega)];show[(a,false)]::(((Br L (L.length+2) (a+2) false).1,_,_,_)::DJ L N g ((Br L (L.length+2) (a+2) false).2.1+1) _).map (·.1)=_;rw[p,yU];rw[show a+10+c.length+1=a+(c.length+11) by omega]
  obtain⟨v,u⟩:=u;obtain⟨w,x⟩:=aj b d f N n (a+(c.length+11)) g v t (by omega);rw[u];refine⟨by simp only[l6];omega,λh i e=>?_⟩
  match h,e with
  |0,e=>
   have e:[(a,false)]=i:=by simpa using e
   exact .inl ⟨rfl,by rw[←e];simp⟩
  |1,e=>
   have e:(a+2,false)::(a+3,false)::T'=i:=by simpa using e
   exact .inr ⟨rfl,T',by rw[←e];simp,r⟩
  |h+2,e=>
   have e:((DJ L N g (a+(c.length+11)) v).map (·.1))[h]? =some i:=by simpa using e
   have q:=x h i e;have y:(h+2)%2=h%2:=by omega
   have k:(h+2) / 2=h / 2+1:=by omega
   have l:a+(c.length+11)+h / 2*(c.length+11)=a+(h+2) / 2*(c.length+11):=by rw[k,wK];omega
   unfold PgT at q ⊢;rw[y,←l];exact q
end
end Go.Den
namespace Go.Den
open Go.RowKit
open Go.Lx (Rn AA BQ El Ih Cs EI EG)
set_option maxRecDepth 100000
section
variable{L:List Rn}{s post:List UInt8}
theorem fX(b:AA L=s):∀(c:List UInt8)(a K:Nat)(d:Bool),s.drop a=c++10::post→Gb c→c.length<K→(BM L K a d false).2.2=false
 |[],a,K,d,f,_,_=>by have g:=Di f;rw[Em (.inr (by rw[b];exact g.1))]
 |x::c,a,0,_,_,_,h=>absurd h (Nat.not_lt_zero _)
 |x::c,a,K+1,d,f,i,h=>by
  have g:=Di f;have j:a<L.length:=by rw[←Bj,b];exact g.2.1
  simp only[l6] at h;rcases i x yS with e|e
  · have ne:=Et e;rw[GN j (by rw[b,g.1];exact ne 10 (by decide)) (by rw[b,g.1];exact M9 e) (by rw[b,f];exact MZ (ne 47 (by decide)))]
  · subst e;rw[LQ j (by rw[b,g.1];decide) (by rw[b,g.1];decide)];exact fX b c (a+1) K true g.2.2 (λk l=>i k (xK _ l)) (by omega)
theorem fW{x:List UInt8}(h:EG x=none):N8 x=false:=by unfold N8;rw[h]
theorem Rg{a b:Nat}{c:Bool}(d:bt (AA L) a=10):Ej L (b+1) a c=true:=by have e:BM L (L.length+2) a c false=(a,c,false):=Em (.inr d);unfold Ej;rw[e,if_pos (.inr d)];rfl
theorem MV{a b:Nat}{c:Bool}(d:a<L.length)(f:bt (AA L) a≠10)(g:D8 (bt (AA L) a)=false)(h:EI ((AA L).drop a)=none)(i:EG ((AA L).drop a)=none):Ej L (b+1) a c=Ej L b (a+mL L a) false:=by
 have e:BM L (L.length+2) a c false=(a,c,false):=GN d f g h
 conv=>lhs;unfold Ej
 rw[e,if_neg (λq=>q.elim (λq=>by have:L.length≤a:=q;omega) f)];show(!N8 ((AA L).drop a)&&Ej L b (a+mL L a) false)=_;rw[fW i];rfl
theorem tQ(b:AA L=s):∀(c:Nat)(d:List UInt8)(a f:Nat)(g:Bool),d.length≤c→s.drop a=d++10::post→Gb d→Ej L f a g=true:=by
 intro c;induction c with
 |zero=>
  intro d a f g h i j;have e:d=[]:=List.eq_nil_of_length_eq_zero (by omega);subst e;cases f with
  |zero=>rfl
  |succ f=>have k:=Di i;exact Rg (by rw[b];exact k.1)
 |succ c l=>
  intro d a f g h i j;cases f with
  |zero=>rfl
  |succ f=>
   have m:d.length<L.length+2:=by have:=congrArg yI i;rw[yt,o7,←b,Bj] at this;omega
   obtain⟨n,_⟩:=Qi b d a (L.length+2) g false i j m;have o:=fX b d a (L.length+2) g i j m;have p:=Qh d;have t:s.drop (a+DH d)=d.drop (DH d)++10::post:=by rw[←yC,i,zj p]
   have u:Gb (d.drop (DH d)):=λv w=>j v (zk w);have y:=yt (i:=DH d) (l:=d);unfold Ej;rw[n,o];split
   · rfl
   · rename_i c;cases h:d.drop (DH d) with
     |nil=>rw[h] at t;have k:=Di t;exact absurd (.inr (by rw[b];exact k.1)) c
     |cons x r=>
      rw[h] at t y u;have k:=Di t;have g:DK x=true:=by
       rcases u x yS with e|e
       · exact e
       · exfalso;have m:∀(i:List UInt8),(i.drop (DH i)).head?≠some 32:=by
          intro i;induction i with
          |nil=>simp[DH]
          |cons z i p=>
           unfold DH;by_cases c:z=32
           · rw[if_pos c,zi];exact p
           · rw[if_neg c];intro q;exact c (by simpa using q)
         exact m d (by rw[h,e];rfl)
      have j:Gb r:=λv w=>u v (xK _ w);have n:∀v,(10::post).head? =some v→Go.Lx.BZ v=false∧Go.Lx.isDigit v=false∧v≠34∧v≠39:=λv w=>by
       have:v=10:=by simpa using w.symm
       subst this;decide
      have o:Go.Lx.B7 ((AA L).drop (a+DH d))=(1,1+Ca r,false):=by rw[b,t];exact NL (t:=10::post) g n j
      have k:EG ((AA L).drop (a+DH d))=none:=by rw[b,t];exact XJ (t:=10::post) g n j
      rw[fW k,o];have i:=La r;have p:s.drop (a+DH d+(1+Ca r))=r.drop (Ca r)++10::post:=by rw[←yC,t,show 1+Ca r=Ca r+1 by omega,List.cons_append,zi,zj i]
      have c:=yt (i:=Ca r) (l:=r);simp only[l6] at y;exact l (r.drop (Ca r)) (a+DH d+(1+Ca r)) f false (by omega) p (λv w=>j v (zk w))
theorem fy(b:AA L=s){a:Nat}{c:List UInt8}(d:s.drop a=Hu c++post)(k:Nat):Ej L (k+2) a false=true:=by
 have d:s.drop a=120::10::([35,112,114,97,103,109,97,32]++(c++[10])++post):=d;have f:=Di d;have g:=Di f.2.2;have h:a<L.length:=by rw[←Bj,b];exact f.2.1
 have i:mL L a=1:=OC (k:=1) (b:=false) (by rw[b,d];exact VY _);rw[MV h (by rw[b,f.1];decide) (by rw[b,f.1];decide) (by rw[b,d];exact MZ (by decide)) (by
  rw[b,d];exact XJ (s:=[]) (t:=10::_) (by decide) (λj l=>by
   have:j=10:=by simpa using l.symm
   subst this;decide) (λj l=>absurd l yT)),i,Rg (by rw[b];exact g.1)]
theorem Aij(b:AA L=s){a:Nat}{c:List UInt8}(d:Gb c)(f:s.drop a=Hu c++post)(k:Nat):Ej L (k+2) (a+2) false=true:=by
 have h0:s.drop a=[120,10]++(35::112::([114,97,103,109,97,32]++(c++[10])++post)):=f;have g:s.drop (a+2)=35::112::([114,97,103,109,97,32]++(c++[10])++post):=by rw[←yC,h0];rfl
 have h:=Di g;have i:s.drop (a+3)=112::114::97::103::109::97::32::(c++[10]++post):=h.2.2;have d3:=Di i;have j:s.drop (a+9)=(32::c)++10::post:=by rw[show a+9=a+3+6 by omega,←yC,i];show 32::(c++[10]++post)=_;simp
 have l:a+2<L.length:=by rw[←Bj,b];exact h.2.1
 have m:a+3<L.length:=by rw[←Bj,b];exact d3.2.1
 have n:mL L (a+2)=1:=OC (k:=5) (b:=false) (by rw[b,g];exact Vs _);have o:mL L (a+3)=6:=OC (k:=1) (b:=false) (by rw[b,i];exact VJ _);rw[MV l (by rw[b,h.1];decide) (by rw[b,h.1];decide) (by rw[b,g];exact MZ (by decide)) (by rw[b,g];kernel_rfl),n,
  MV m (by rw[b,d3.1];decide) (by rw[b,d3.1];decide) (by rw[b,i];exact MZ (by decide)) (by rw[b,i];kernel_rfl),o]
 exact tQ (post:=post) b (c.length+1) (32::c) (a+9) k false (vE _) j λp q=>by
  rcases vw.1 q with e|e
  · exact .inr e
  · exact d p e
theorem Ani(b:AA L=s){c:List UInt8}(d:Gb c)(f:c.length+3<L.length+2):∀(n a g:Nat),s.drop a=B0 c n→Eu L g a=true
 |_,_,0,_=>rfl
 |0,a,g+1,h=>by
  have:L.length≤a:=by have:=congrArg yI h;rw[yt,←b,Bj] at this;have e:(B0 c 0).length=0:=rfl;omega
  unfold Eu;rw[if_pos this]
 |n+1,a,1,h=>by
  have h:s.drop a=Hu c++B0 c n:=h;unfold Eu;split
  · rfl
  · rw[fy b h];rfl
 |n+1,a,g+2,h=>by
  have h:s.drop a=Hu c++B0 c n:=h;have i:=congrArg yI h;rw[yt,o7,Gy,←b,Bj] at i;have j:=rv b h L.length;obtain⟨T',k,_⟩:=ug b d h L.length (by omega);have l:s.drop (a+(c.length+11))=B0 c n:=by rw[←yC,h,zj (by rw[Gy];exact vE _),zo (by rw[Gy];exact vE _)];rfl
  have m:=Ani b d f n (a+(c.length+11)) g l
  conv=>lhs;unfold Eu
  rw[if_neg (by omega),fy b h,j,Bool.true_and];show Eu L (g+1) (a+1+1)=true
  conv=>lhs;unfold Eu
  rw[if_neg (by omega),Aij b d h,k,Bool.true_and];show Eu L g (a+10+c.length+1)=true;rw[show a+10+c.length+1=a+(c.length+11) by omega];exact m
end
theorem cF{a:List UInt8}(b:Gb a):∀n,Pl2 (B0 a n)
 |0=>λx c=>absurd c yT
 |n+1=>λx c=>by
  rcases xI.1 c with d|d
  · rcases xI.1 d with d|d
    · simp only[vw,yT,or_false] at d;rcases d with rfl|rfl|rfl|rfl|rfl|rfl|rfl|rfl|rfl|rfl<;>decide
    · rcases xI.1 d with d|d
      · rcases b x d with e|e
        · exact⟨Et e 63 (by decide),Et e 92 (by decide)⟩
        · subst e;decide
      · have:x=10:=by simpa using d
        subst this;decide
  · exact cF b n x d
theorem Aej(w:List UInt8)(n:Nat):B0 w n=[]∨(B0 w n).getLast? =some 10:=by
 cases n with
 |zero=>exact .inl rfl
 |succ n=>
  right;show(Hu w++B0 w n).getLast? =_;rw[←OG];have e:B0 w n++Hu w=(B0 w n++([120,10,35,112,114,97,103,109,97,32]++w))++[10]:=by unfold Hu;simp
  rw[e];generalize B0 w n++([120,10,35,112,114,97,103,109,97,32]++w)=X;simp
theorem MT{a:List UInt8}(b:Gb a)(n:Nat):BQ (B0 a n)=EM 0 (B0 a n):=mU (cF b n) (Aej a n)
theorem cL{a:List UInt8}(b:Gb a)(n:Nat):JT (B0 a n)=true:=by
 unfold JT;rw[MT b n];have c:AA (EM 0 (B0 a n))=B0 a n:=Jm _ _;cases n with
 |zero=>rfl
 |succ n=>exact Ani c b (by rw[Nl,Hb,wK];omega) (n+1) 0 _ rfl
theorem S1{a:List UInt8}(b:Gb a)(n:Nat):((EV (B0 a n)).map (·.1)).length=2*n∧∀c d,((EV (B0 a n)).map (·.1))[c]? =some d→PgT (EM 0 (B0 a n)) a 0 c d:=by
 have f:AA (EM 0 (B0 a n))=B0 a n:=Jm _ _;unfold EV;rw[Aht,MT b n];cases n with
 |zero=>exact⟨rfl,λc d e=>by have:((DJ (EM 0 (B0 a 0)) (B0 a 0).length ((EM 0 (B0 a 0)).length+2) 0 0).map (·.1))=[]:=rfl;rw[this] at e;simp at e⟩
 |succ n=>refine aj f b (by rw[Nl,Hb,wK];omega) _ (n+1) 0 _ 0 rfl ?_;rw[Nl,Hb];have:(n+1)*11≤(n+1)*(a.length+11):=Nat.mul_le_mul_left _ (by omega);omega
end Go.Den
