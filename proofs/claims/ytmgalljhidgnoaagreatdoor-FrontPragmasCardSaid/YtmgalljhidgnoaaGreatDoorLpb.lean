/-
 Proof.
-/
import Derived.Test.YtmgalljhidgnoaaGreatDoorSml
import Derived.Test.YtmgalljhidgnoaaGreatDoorBkb
open List renaming length_map → s9, getD_eq_getElem?_getD → vM, isPrefixOf → yu, drop_eq_getElem_cons → o9, getElem?_eq_getElem → wq, drop_eq_nil_of_le → s8, find?_cons → yw
open Int renaming ofNat → vJ, negSucc → yx
open Nat renaming lt_of_lt_of_le → vZ, zero_le → vF, lt_irrefl → yd, not_lt_zero → vH, lt_or_ge → vG
open Bool renaming true_and → yy, and_eq_true → vK, and_true → yz, and_false → yA
noncomputable section
namespace Go.Den
open Go.RowKit
set_option maxRecDepth 100000
open Go.Lx (Rn AA Bi Co El Ih Dp DO Gg EI E9 Ey EG IP HA Cs)
abbrev I3:TypeId:=170
theorem Bj(L:List Rn):(AA L).length=L.length:=s9 ..
theorem Jd{a:List Rn}{b:Nat}(c:b<a.length)(d:b<(AA a).length):(AA a)[b]=a[b].1:=List.getElem_map ..
theorem FJ{B:List UInt8}{i j:Nat}:Cs (B.drop i) j=bt B (i+j):=by unfold Cs bt;rw[vM,vM,List.getElem?_drop]
theorem H4(x:UInt8)(a:Nat)(b:a<256):AN (vJ x.toNat) (vJ a)=decide (x=UInt8.ofNat a):=toNat_eq x a b
def Old(p:P)(v:U):Prop:=∀q o n z b,v=.slice q o n z b→q.nat<p.nat
structure Wk(h:H)(pW:P)(fl:List UInt8)(L:List Rn)(a:Nat)(vd:U)(sp:Bool)(q:Int):Prop where
 n:pW.nat<h.next.nat
 row:∃t,h.at pW=.row t 6 0 I3 true∧AD t 0=S fl∧CI 3 h (AD t 1) (DM L)∧Old pW (AD t 1)∧AD t 2=.int .i64 (.ofNat a)∧AD t 3=vd∧AD t 4=.bool sp∧AD t 5=.int .i64 q
section
variable{h:H}{pW:P}{fl:List UInt8}{L:List Rn}{a:Nat}{vd:U}{sp:Bool}{q:Int}
theorem Wk.ext{h':H}(w:Wk h pW fl L a vd sp q)(x:AP h h'):Wk h' pW fl L a vd sp q:=by obtain⟨t,b,c,d,f⟩:=w.row;exact⟨vZ w.n x.1,t,by rw[x.2 _ w.n];exact b,c,d.ext x,f⟩
theorem Wk.keep{b:H}(c:Wk h pW fl L a vd sp q)(d:h.next.nat≤b.next.nat)(f:∀g,g.nat<pW.nat+1→b.at g=h.at g):Wk b pW fl L a vd sp q:=by
 obtain⟨t,i,j,k,l,m⟩:=c.row;refine⟨vZ c.n d,t,by rw[f _ (Nat.lt_succ_self _)];exact i,j,?_,l,m⟩;rcases k with k|⟨n,o,g,p,r,e,s,u,v⟩
 · exact .inl k
 · exact .inr ⟨n,o,g,p,r,e,vZ s d,u.frame (f _ (Nat.lt_succ_of_lt (l _ _ _ _ _ e))),v⟩
theorem Wk.file{K:Nat→Nat→H→Prop}(b:Wk h pW fl L a vd sp q)(d:K fl.length (enc fl) h):oK (Ag (.ptr pW 0) h) λf g=>Ac 0 f λi=>Z i g λj=>Bv j λl c=>K l c g:=by obtain⟨t,k,g,_⟩:=b.row;rw[Aj,Ad,Ae];refine C6 k (by decide) ?_;show Bv (AD t 0) _;rw[g,CR];exact d
theorem Wk.pos{K:Int→H→Prop}(w:Wk h pW fl L a vd sp q)(b:K (vJ a) h):oK (Ag (.ptr pW 0) h) λc d=>Ac 2 c λf=>Z f d λg=>Ar .i64 g λn=>K n d:=by obtain⟨t,i,_,_,_,d,_⟩:=w.row;rw[Aj,Ad,Ae];refine C6 i (by decide) ?_;show Ar .i64 (AD t 2) _;rw[d,AG];exact b
theorem Wk.l{K:U→H→Prop}(w:Wk h pW fl L a vd sp q)(b:∀v,CI 3 h v (DM L)→K v h):oK (Ag (.ptr pW 0) h) λc d=>Ac 1 c λf=>Z f d λg=>K g d:=by obtain⟨t,i,_,d,_⟩:=w.row;rw[Aj,Ad,Ae];exact C6 i (by decide) (b _ d)
theorem Wk.dg{K:U→H→Prop}(b:Wk h pW fl L a vd sp q)(c:K vd h):oK (Ag (.ptr pW 0) h) λd f=>Ac 3 d λg=>Z g f λi=>K i f:=by obtain⟨t,j,_,_,_,_,f,_⟩:=b.row;rw[Aj,Ad,Ae];refine C6 j (by decide) ?_;rw[show AD t (0+3)=vd from f];exact c
theorem Wk.quo{K:Int→H→Prop}(b:Wk h pW fl L a vd sp q)(c:K q h):oK (Ag (.ptr pW 0) h) λd f=>Ac 5 d λg=>Z g f λi=>Ar .i64 i λn=>K n f:=by obtain⟨t,j,_,_,_,_,_,_,f⟩:=b.row;rw[Aj,Ad,Ae];refine C6 j (by decide) ?_;show Ar .i64 (AD t 5) _;rw[f,AG];exact c
theorem Wk.set{K:H→Prop}(b:Wk h pW fl L a vd sp q){j:Nat}{v:U}(c:j<6)(d:v.one=true)(f:∀g t,h.at pW=.row t 6 0 I3 true→g.next=h.next→g.at pW=.row (Ai [v] j t) 6 0 I3 true→(∀i,i≠pW→g.at i=h.at i)→K g):oK (Ag (.ptr pW 0) h) λk l=>Ac j k λm=>BC m v l K:=by obtain⟨t,n,_⟩:=b.row;rw[Aj,Ad,Ae];refine FU n (vF _) (by omega) d ?_;rw[Nat.zero_add];exact f _ t n rfl (Bg _ _ _) λi o=>AQ o
theorem Nq{h a:H}(b:a.next=h.next)(c:∀d,d≠pW→a.at d=h.at d):CE (λd=>d=pW) h a:=⟨by rw[b];exact Nat.le_refl _,λd _ f=>c d f⟩
theorem Wk.setPos{K:H→Prop}(d:Wk h pW fl L a vd sp q){b:Nat}(g:∀i,i.next=h.next→(∀c,c≠pW→i.at c=h.at c)→Wk i pW fl L b vd sp q→K i):oK (Ag (.ptr pW 0) h) λj k=>Ac 2 j λl=>BC l (.int .i64 (vJ b)) k K:=by
 obtain⟨m,p,r,s,u,g3,v,g5,g6⟩:=d.row;refine d.set (by decide) rfl λi t e n w f=>?_;rw[p] at e;cases e;refine g i n f ⟨by rw[n];exact d.n,_,w,?_,?_,?_,?_,?_,?_,?_⟩
 · rw[Am];simpa using r
 · rw[show AD (Ai [.int .i64 (vJ b)] 2 m) 1=AD m 1 by rw[Am];simp];exact s.DV (Nq n f) λx o n z b e y=>by have:=u x o n z b e;rw[y] at this;exact yd _ this
 · rw[show AD (Ai [.int .i64 (vJ b)] 2 m) 1=AD m 1 by rw[Am];simp];exact u
 · rw[Am];simp
 · rw[Am];simpa using v
 · rw[Am];simpa using g5
 · rw[Am];simpa using g6
theorem Wk.Axf{K:H→Prop}(b:Wk h pW fl L a vd sp q){c:U}(d:c.one=true)(g:∀i,i.next=h.next→(∀j,j≠pW→i.at j=h.at j)→Wk i pW fl L a c sp q→K i):oK (Ag (.ptr pW 0) h) λk l=>Ac 3 k λm=>BC m c l K:=by
 obtain⟨p,r,s,u,v,g3,w,g5,g6⟩:=b.row;refine b.set (by decide) d λi t e n x f=>?_;rw[r] at e;cases e;refine g i n f ⟨by rw[n];exact b.n,_,x,?_,?_,?_,?_,?_,?_,?_⟩
 · rw[Am];simpa using s
 · rw[show AD (Ai [c] 3 p) 1=AD p 1 by rw[Am];simp];exact u.DV (Nq n f) λy o n z j e k=>by have:=v y o n z j e;rw[k] at this;exact yd _ this
 · rw[show AD (Ai [c] 3 p) 1=AD p 1 by rw[Am];simp];exact v
 · rw[Am];simpa using g3
 · rw[Am];simp
 · rw[Am];simpa using g5
 · rw[Am];simpa using g6
theorem Wk.HG{K:H→Prop}(c:Wk h pW fl L a vd sp q){b:Bool}(d:∀g,g.next=h.next→(∀i,i≠pW→g.at i=h.at i)→Wk g pW fl L a vd b q→K g):oK (Ag (.ptr pW 0) h) λj k=>Ac 4 j λl=>BC l (.bool b) k K:=by
 obtain⟨m,p,r,s,u,g3,v,g5,g6⟩:=c.row;refine c.set (by decide) rfl λg t e n w f=>?_;rw[p] at e;cases e;refine d g n f ⟨by rw[n];exact c.n,_,w,?_,?_,?_,?_,?_,?_,?_⟩
 · rw[Am];simpa using r
 · rw[show AD (Ai [.bool b] 4 m) 1=AD m 1 by rw[Am];simp];exact s.DV (Nq n f) λx o n z b e y=>by have:=u x o n z b e;rw[y] at this;exact yd _ this
 · rw[show AD (Ai [.bool b] 4 m) 1=AD m 1 by rw[Am];simp];exact u
 · rw[Am];simpa using g3
 · rw[Am];simpa using v
 · rw[Am];simp
 · rw[Am];simpa using g6
theorem Wk.WB{K:H→Prop}(b:Wk h pW fl L a vd sp q){c:Int}(d:∀g,g.next=h.next→(∀i,i≠pW→g.at i=h.at i)→Wk g pW fl L a vd sp c→K g):oK (Ag (.ptr pW 0) h) λj k=>Ac 5 j λl=>BC l (.int .i64 c) k K:=by
 obtain⟨m,p,r,s,u,g3,v,g5,g6⟩:=b.row;refine b.set (by decide) rfl λg t e n w f=>?_;rw[p] at e;cases e;refine d g n f ⟨by rw[n];exact b.n,_,w,?_,?_,?_,?_,?_,?_,?_⟩
 · rw[Am];simpa using r
 · rw[show AD (Ai [.int .i64 c] 5 m) 1=AD m 1 by rw[Am];simp];exact s.DV (Nq n f) λx o n z c e y=>by have:=u x o n z c e;rw[y] at this;exact yd _ this
 · rw[show AD (Ai [.int .i64 c] 5 m) 1=AD m 1 by rw[Am];simp];exact u
 · rw[Am];simpa using g3
 · rw[Am];simpa using v
 · rw[Am];simpa using g5
 · rw[Am];simp
end
theorem Nn{a:H}{v:U}{b:List Rn}(c:CI 3 a v (DM b)){d:Nat}(hi:d<b.length){K:U→Prop}(f:∀q o,Dl a q o (KK b[d])→K (.ptr q o)):Bo (vJ d) λg=>A7 3 g v K:=by
 have h:d<(DM b).length:=by rw[B6];exact hi
 refine Cy ((c.rd h).elem h λq o _ _ i=>?_);rw[ED hi] at i;exact f q o i
theorem Ld{b:H}{v:U}{c:List Rn}(d:CI 3 b v (DM c)){f:Nat}(hi:f<c.length){K:Int→Prop}(g:K (vJ c[f].1.toNat)):Bo (vJ f) λh=>A7 3 h v λa=>Ac 0 a λa=>Z a b λx=>Ar .u8 x K:=
 Nn d hi λq o i=>by rw[Ae];refine i.Z (j:=0) (by show 0<3;decide) ?_;show Ar .u8 (.int .u8 (vJ c[f].1.toNat)) _;rw[AG];exact g
theorem Arn{b:H}{v:U}{c:List Rn}(d:CI 3 b v (DM c)){f:Nat}(hi:f<c.length){K:Int→Prop}(g:K (vJ c[f].2.1)):Bo (vJ f) λh=>A7 3 h v λa=>Ac 1 a λa=>Z a b λx=>Ar .i64 x K:=
 Nn d hi λq o i=>by rw[Ae];refine i.Z (j:=1) (by show 1<3;decide) ?_;show Ar .i64 (.int .i64 (vJ c[f].2.1)) _;rw[AG];exact g
theorem uY{b:H}{v:U}{c:List Rn}(d:CI 3 b v (DM c)){f:Nat}(hi:f<c.length){K:Int→Prop}(g:K (vJ c[f].2.2)):Bo (vJ f) λh=>A7 3 h v λa=>Ac 2 a λa=>Z a b λx=>Ar .i64 x K:=
 Nn d hi λq o i=>by rw[Ae];refine i.Z (j:=2) (by show 2<3;decide) ?_;show Ar .i64 (.int .i64 (vJ c[f].2.2)) _;rw[AG];exact g
theorem MX{a:List Rn}{b:Nat}(c:b<a.length):bt (AA a) b=a[b].1:=by
 have d:b<(AA a).length:=by rw[Bj];exact c
 rw[DF d,Jd c]
theorem LO{L:List Rn}{i:Nat}(h:L.length≤i):bt (AA L) i=0:=GL (by rw[Bj];exact h)
section
variable{h:H}{pW:P}{fl:List UInt8}{L:List Rn}{a:Nat}{vd:U}{sp:Bool}{q:Int}
theorem Ud(b:Wk h pW fl L a vd sp q){n:Nat}(c:a+n≤1000000000){d:KV}(f:d (ub (bt (AA L) (a+n))) h):W1 (.func 175) [.ptr pW 0,.int .i64 (vJ n)] h d:=by
 refine Aox (n:=1) AJ (Bdj ?_);unfold QA;refine b.pos (Bx c (b.l λv g=>?_));rw[g.len,B6,Gc];refine Bp (λe=>?_) (λe=>?_)
 · have e:=of_decide_eq_true e;rw[LO e] at f;exact f
 · have e:a+n<L.length:=by have:=of_decide_eq_false e;omega
   refine b.l λv g=>b.pos (Bx c (Ld g e ?_));rw[MX e] at f;exact f
theorem Fk{x y:UInt8}{s t:List UInt8}:yu (x::s) (y::t)=(decide (x=y)&&yu s t):=by show((x==y)&&yu s t)=_;congr 1
theorem gh(b:Wk h pW fl L a vd sp q){c:List UInt8}(d:a+c.length≤L.length)(f:L.length≤1000000000){g:KV}(i:g (.bool (c.isPrefixOf ((AA L).drop a))) h):∀(n j:Nat),c.length-j<n→j≤c.length→(c.drop j).isPrefixOf ((AA L).drop (a+j))=c.isPrefixOf ((AA L).drop a)→(Px W1 g n).a1 (.ptr pW 0) c.length (enc c) (vJ c.length) (vJ j) h
 |0,_,k,_,_=>absurd k (vH _)
 |n+1,j,k,hi,l=>by
  refine Aig ?_;unfold Qm;rw[Cr];refine Bp (λe=>?_) (λe=>?_)
  · have e:j<c.length:=of_decide_eq_true e;have m:a+j<L.length:=by omega
    have o:a+j<(AA L).length:=by rw[Bj];exact m
    refine b.l λv p=>b.pos (Bx (by omega) (Ld p m ?_));refine Cy (Ev e ?_);rw[TN,FL];rw[o9 e,o9 o,Fk,Jd m] at l;refine Bp (λq=>?_) (λq=>?_)
    · have q:¬L[a+j].1=c[j]:=by simpa using q
      rw[decide_eq_false λe=>q e.symm,Bool.false_and] at l;rw[←l] at i;exact i
    · have q:L[a+j].1=c[j]:=by simpa using q
      rw[decide_eq_true q.symm,yy] at l;exact Bx (by omega) (gh b d f i n (j+1) (by omega) e l)
  · have e:j=c.length:=by have:=of_decide_eq_false e;omega
    subst e;rw[List.drop_length] at l;have:yu [] ((AA L).drop (a+c.length))=true:=by cases(AA L).drop (a+c.length)<;>rfl
    rw[this] at l;rw[←l] at i;exact i
theorem YJ(b:Wk h pW fl L a vd sp q){s:List UInt8}(c:a≤L.length)(d:a+s.length≤1000000000)(f:L.length≤1000000000){g:KV}(i:g (.bool (s.isPrefixOf ((AA L).drop a))) h):W1 (.func 172) [.ptr pW 0,S s] h g:=by
 refine Alh (n:=s.length+2) AJ (Azl ?_);unfold P1;refine b.pos (Bx d (b.l λv j=>?_));rw[j.len,B6,Cr];refine Bp (λe=>?_) (λe=>?_)
 · have e:=of_decide_eq_true e;have:s.isPrefixOf ((AA L).drop a)=false:=by refine Bool.eq_false_iff.2 λk=>?_;obtain⟨t,l⟩:=List.isPrefixOf_iff_prefix.1 k;have:=congrArg List.length l;rw[List.length_append,List.length_drop,Bj] at this;omega
   rw[this] at i;exact i
 · have e:=of_decide_eq_false e;exact gh b (by omega) f i _ 0 (by omega) (vF _) rfl
theorem Atw(l c:Nat)(a b:Int)(h:H):AF env (env.ty 45) [(0,.str l c),(1,.int .i64 a),(2,.int .i64 b)] h=some (.agg [.str l c,.int .i64 a,.int .i64 b],h):=by kernel_rfl
def H5(fl:List UInt8)(L:List Rn)(f t:Nat):List U:=[S fl,.int .i64 (vJ (El L f)),.int .i64 (vJ (Ih L (t-1)))]
theorem uE(b:Wk h pW fl L a vd sp q){f t:Nat}(c:f<L.length)(d:0<t)(g:t≤L.length)(i:L.length≤1000000000){j:KV}(k:∀l,AP h l→j (.agg (H5 fl L f t)) l):W1 (.func 128) [.ptr pW 0,.int .i64 (vJ f),.int .i64 (vJ t)] h j:=by
 refine Aor (n:=1) AJ (Bfn ?_);unfold P0;refine BX ?_;have m:AP h (h.new Mz):=.new;have n:=b.ext m;have o:t-1<L.length:=by omega
 refine n.file (n.l λv p=>Arn p c (n.l λr s=>?_));have u:fI (wrap .i64 (EU (vJ t) (vJ 1)))=λK=>K (vJ (t-1)):=by funext K;rw[RG d,C9 (by omega),BW]
 rw[u];refine uY s o ?_;rw[Atw,Ad];refine GW (e:=45) (zs:=[(.str 0 0),(.int .i64 (vJ 0)),(.int .i64 (vJ 0))]) rfl rfl (by decide) λw x y g=>?_;refine g.A3 rfl ?_;have e:H5 fl L f t=[S fl,.int .i64 (vJ L[f].2.1),.int .i64 (vJ L[t-1].2.2)]:=by unfold H5 El Ih;rw[vM,vM,wq c,wq o];rfl
 rw[e] at k;exact k w x
end
theorem rj(x:UInt8):Pure PP G h0 174 [ub x] (.bool (BZ x)):=by
 refine Amy (n:=1) AJ (Baa ?_);unfold QZ;refine IT ?_;refine G8 (b:=(decide (65≤x.toNat)&&decide (x.toNat≤90))) (λa b=>?_) ?_
 · refine IT ?_;rw[Gc,Gc];exact b
 refine Tw ?_;rw[Gc,Gc,DB];rfl
theorem pj(x:UInt8):Pure PP G h0 176 [ub x] (.bool (isDigit x)):=by refine Ang (n:=1) AJ (Bdn ?_);unfold Q2;refine IT ?_;rw[Gc,Gc];rfl
theorem Amj(x:UInt8):Pure PP G h0 124 [ub x] (.bool (D8 x)):=by
 refine Aoq (n:=1) AJ (Bfi ?_);unfold Qo;refine G8 (b:=(decide (9≤x.toNat)&&decide (x.toNat≤13))&&!decide (x.toNat=10)) (λa b=>?_) ?_
 · refine IT ?_;refine IT ?_;rw[Gc,Gc,DB,FL];exact b
 rw[DB];have e:(decide (x.toNat=32)||((decide (9≤x.toNat)&&decide (x.toNat≤13))&&!decide (x.toNat=10)))=D8 x:=by unfold D8;rw[Bool.eq_iff_iff];simp only[Bool.or_eq_true,vK,decide_eq_true_eq,Bool.not_eq_true',decide_eq_false_iff_not];omega
 show U.bool (decide (x.toNat=32)||((decide (9≤x.toNat)&&decide (x.toNat≤13))&&!decide (x.toNat=10)))=_;rw[e]
end Go.Den
noncomputable section
namespace Go.Den
open Go.RowKit
set_option maxRecDepth 100000
open Go.Lx (Rn AA Bi Co El Ih Dp DO Gg EI E9 Ey EG IP HA Cs)
theorem drop_cons{B:List UInt8}{j:Nat}(h:j<B.length):B.drop j=B[j]::B.drop (j+1):=o9 h
theorem QL{q x y:UInt8}{r:List UInt8}:Dp q (x::y::r)=if x=10 then none else if x=92∧y≠10 then(Dp q r).map (·+2) else if x=q then some 1 else(Dp q (y::r)).map (·+1):=by rw[Dp]
theorem WY{q x:UInt8}:Dp q [x]=if x=10 then none else if x=q then some 1 else none:=by rw[Dp]
def F9(q:UInt8)(B:List UInt8)(a i:Nat):Nat:=match Dp q (B.drop (a+i)) with
 |some n=>i+n
 |none=>0
theorem U8{q:UInt8}{B:List UInt8}{a i:Nat}(h:B.length≤a+i):F9 q B a i=0:=by unfold F9;rw[s8 h];simp[Dp]
theorem tj{q:UInt8}{B:List UInt8}{a i:Nat}(h:a+i<B.length)(e:B[a+i]=10):F9 q B a i=0:=by
 unfold F9;rw[drop_cons h,e];cases B.drop (a+i+1) with
 |nil=>simp[Dp]
 |cons y r=>simp[Dp]
theorem kU{q:UInt8}{b:List UInt8}{a c:Nat}(d:a+c+1<b.length)(e:b[a+c]=92)(f:b[a+c+1]≠10):F9 q b a c=F9 q b a (c+2):=by
 unfold F9;rw[drop_cons (show a+c<b.length by omega),drop_cons d,e];rw[QL,if_neg (by decide),if_pos ⟨rfl,f⟩,show a+(c+2)=a+c+1+1 by omega];cases Dp q (b.drop (a+c+1+1)) with
 |none=>rfl
 |some n=>show c+(n+2)=c+2+n;omega
theorem TO{q:UInt8}{b:List UInt8}{a c:Nat}(d:a+c<b.length)(f:q≠92)(e:b[a+c]=92)(g:∀g:a+c+1<b.length,b[a+c+1]=10):F9 q b a c=0:=by
 unfold F9;rw[drop_cons d,e];cases h:b.drop (a+c+1) with
 |nil=>rw[WY,if_neg (by decide),if_neg (λe=>f e.symm)]
 |cons i r=>
  have j:a+c+1<b.length:=by
   rcases vG (a+c+1) b.length with g|g
   · exact g
   · rw[s8 g] at h;cases h
  rw[drop_cons j,g j] at h;have k:i=10:=by injection h with a l;exact a.symm
  subst k;rw[QL,if_neg (by decide),if_neg (λe=>e.2 rfl),if_neg (λe=>f e.symm)];cases r with
  |nil=>simp[Dp]
  |cons z r=>simp[Dp]
theorem Ajb{q:UInt8}{b:List UInt8}{a c:Nat}(d:a+c<b.length)(e:b[a+c]=q)(f:b[a+c]≠10)(g:b[a+c]≠92):F9 q b a c=c+1:=by
 unfold F9;rw[drop_cons d];cases h:b.drop (a+c+1) with
 |nil=>rw[WY,if_neg f,if_pos e]
 |cons i r=>rw[QL,if_neg f,if_neg (λj=>g j.1),if_pos e]
theorem mI{q:UInt8}{b:List UInt8}{a c:Nat}(d:a+c<b.length)(e:b[a+c]≠q)(f:b[a+c]≠10)(g:b[a+c]≠92):F9 q b a c=F9 q b a (c+1):=by
 unfold F9;rw[drop_cons d,show a+(c+1)=a+c+1 from rfl];cases h:b.drop (a+c+1) with
 |nil=>rw[WY,if_neg f,if_neg e];simp[Dp]
 |cons i r=>
  rw[QL,if_neg f,if_neg (λj=>g j.1),if_neg e];cases Dp q (i::r) with
  |none=>rfl
  |some n=>show c+(n+1)=c+1+n;omega
section
variable{h:H}{pW:P}{fl:List UInt8}{L:List Rn}{a:Nat}{vd:U}{sp:Bool}{q:Int}
theorem hJ(b:Wk h pW fl L a vd sp q){c:UInt8}(d:c≠92)(f:L.length≤1000000)(g:a≤L.length){i:KV}:∀(n k:Nat),2*(L.length-k)+2<n→a+k≤L.length+1→i (.int .i64 (vJ (F9 c (AA L) a k))) h→(Lr W1 i n).a1 (.ptr pW 0) (vJ c.toNat) (vJ k) h
 |0,_,l,_,_=>absurd l (vH _)
 |n+1,k,l,hi,m=>by
  refine Afv ?_;unfold Q6;refine b.pos (Bx (by omega) (b.l λv o=>?_));rw[o.len,B6,Cr];refine Bp (λe=>?_) (λe=>?_)
  · have e:a+k<L.length:=of_decide_eq_true e;have p:a+k<(AA L).length:=by rw[Bj];exact e
    obtain⟨r,rfl⟩:∃r,n=r+1:=⟨n-1,by omega⟩;have next:∀j,k≤j→a+j+1≤L.length+1→i (.int .i64 (vJ (F9 c (AA L) a (j+1)))) h→(Lr W1 i (r+1)).a2 (.ptr pW 0) (vJ c.toNat) (vJ j) h:=λj s t u=>by refine Aip ?_;unfold QF;exact Bx (by omega) (hJ b d f g r (j+1) (by omega) (by omega) u)
    have w:bt (AA L) (a+k)=(AA L)[a+k]:=DF p;refine Ud b (by omega) ?_;rw[w];unfold ub;rw[AG,show AN (vJ (AA L)[a+k].toNat) (vJ 10)=decide ((AA L)[a+k]=10) from H4 _ 10 (by decide)];refine Bp (λx=>?_) (λx=>?_)
    · rw[tj p (of_decide_eq_true x)] at m;exact m
    have x:=of_decide_eq_false x;rw[show AN (vJ (AA L)[a+k].toNat) (vJ 92)=decide ((AA L)[a+k]=92) from H4 _ 92 (by decide)];refine Bp (λy=>?_) (λy=>?_)
    · have y:=of_decide_eq_true y;refine b.pos (Bx (by omega) (Bx (by omega) (b.l λl o=>?_)));rw[o.len,B6,Cr];refine DR (b:=decide (bt (AA L) (a+(k+1))=10)) (λi u=>Bx (by omega) (Ud b (by omega) ?_)) ?_
      · unfold ub;rw[AG,show AN (vJ (bt (AA L) (a+(k+1))).toNat) (vJ 10)=decide (bt (AA L) (a+(k+1))=10) from H4 _ 10 (by decide)];exact u
      refine Bp (λq=>?_) (λq=>?_)
      · simp only[vK,decide_eq_true_eq] at q;rw[TO p d y λs=>by have:=q.2;rw[show a+(k+1)=a+k+1 from rfl,DF s] at this;exact this] at m;exact m
      · refine Bx (by omega) ?_;rcases vG (a+k+1) L.length with s|s
        · have t:a+k+1<(AA L).length:=by rw[Bj];exact s
          have f:(AA L)[a+k+1]≠10:=λg=>by rw[decide_eq_true (show a+k+1<L.length from s),yy] at q;have:=of_decide_eq_false q;rw[show a+(k+1)=a+k+1 from rfl,DF t] at this;exact this g
          rw[kU t y f] at m;exact next (k+1) (by omega) (by omega) m
        · rw[TO p d y λf=>by rw[Bj] at f;omega] at m;refine next (k+1) (by omega) (by omega) ?_
          rw[U8 (by rw[Bj];omega)];exact m
    have y:=of_decide_eq_false y;rw[show AN (vJ (AA L)[a+k].toNat) (vJ c.toNat)=decide ((AA L)[a+k]=c) from TN _ c];refine Bp (λeq=>?_) (λeq=>?_)
    · rw[Ajb p (of_decide_eq_true eq) x y] at m;exact Bx (by omega) m
    · rw[mI p (of_decide_eq_false eq) x y] at m;exact next k (Nat.le_refl _) (by omega) m
  · have e:=of_decide_eq_false e;rw[U8 (by rw[Bj];omega)] at m;exact m
theorem Bdv(b:Wk h pW fl L a vd sp q)(c:L.length≤1000000){n:Nat}(d:a+n<L.length)(f:bt (AA L) (a+n)≠92){g:KV}(i:g (.int .i64 (vJ (F9 (bt (AA L) (a+n)) (AA L) a (n+1)))) h):W1 (.func 217) [.ptr pW 0,.int .i64 (vJ n)] h g:=by refine Aon (n:=2*L.length+5) AJ (Bay ?_);unfold QE;refine Ud b (by omega) ?_;unfold ub;rw[AG];exact Bx (by omega) (hJ b f c (by omega) _ (n+1) (by omega) (by omega) i)
def E0:List (List UInt8):=[[],[76],[117],[85],[117,56]]
def Z5s:Tm:=Ai [.str 0 0,.str 0 0,.str 0 0,.str 0 0,.str 0 0] 0 .e
theorem Bdy(h:H):AE env 32 (λe a=>Ap 5 [(0,(.str 0 0)),(1,(.str 1 76)),(2,(.str 1 117)),(3,(.str 1 85)),(4,(.str 2 14453))] h e a)=some (.slice h.next 0 5 1 true,h.new (.row (Ai (E0.map S) 0 Z5s) 5 0 9 true)):=by kernel_rfl
theorem fx{h:H}{e:TypeId}{a:List (List UInt8)}{b:Tm}{n:Nat}(c:a.length=n):Rd 1 (h.new (.row (Ai (a.map S) 0 b) n 0 e true)) (.slice h.next 0 n 1 true) (JX a):=by
 subst c;refine .row h.next 0 (Ai (a.map S) 0 b) a.length 0 e true true (by rw[Fc]) (by rw[Bd];omega) (AS _ _) (by rw[Fc];omega) λd hi=>?_;have f:d<a.length:=by rw[Fc] at hi;exact hi
 rw[KW f];refine⟨rfl,λj g=>?_⟩;have:j=0:=by have g:j<1:=g;omega
 subst this;rw[Am,if_pos ⟨vF _,by rw[s9];omega⟩];simp[f]
def JW(B:List UInt8)(a:Nat)(s:List UInt8):Bool:=s.isPrefixOf (B.drop a)&&(decide (bt B (a+s.length)=34)||(decide (bt B (a+s.length)=39)&&!decide (s=[117,56])))
def Aqk(o:Option (List UInt8)):Int:=match o with
 |some s=>vJ s.length
 |none=>yx 0
theorem fZ(b:Wk h pW fl L a vd sp q)(c:L.length≤1000000)(d:a≤L.length){v:U}(f:Rd 1 h v (JX E0)){g:KV}:∀(n i:Nat),5-i<n→i≤5→g (.int .i64 (Aqk ((E0.drop i).find? (JW (AA L) a)))) h→(PH W1 g n).a1 (.ptr pW 0) v (vJ 5) (vJ i) h
 |0,_,j,_,_=>absurd j (vH _)
 |n+1,i,j,hi,k=>by
  refine Agh ?_;unfold P5;rw[show Ba (vJ i) (vJ 5)=decide (i<5) from Cr _ _];refine Bp (λe=>?_) (λe=>?_)
  · have l:i<5:=of_decide_eq_true e;have e:i<E0.length:=l;have m:i<(JX E0).length:=by rw[Fc];exact e
    have r:(E0[i]'e).length≤2:=by
     have:∀s∈E0,s.length≤2:=by decide
     exact this _ (List.getElem_mem e)
    refine Cy (f.elem m λq o _ _ t=>?_);rw[KW e] at t;refine t.Z (j:=0) (by show 0<1;decide) ?_;show Bv (S (E0[i]'e)) _;rw[CR];refine Ud b (by omega) ?_;unfold ub;rw[AG];refine YJ b (by omega) (by omega) (by omega) ?_;rw[AL];refine DR (b:=decide (bt (AA L) (a+(E0[i]'e).length)=34)||(decide (bt (AA L) (a+(E0[i]'e).length)=39)&&!decide ((E0[i]'e)=[117,56]))) (λu w=>?_) ?_
    · rw[show AN (vJ (bt (AA L) (a+(E0[i]'e).length)).toNat) (vJ 34)=decide (bt (AA L) (a+(E0[i]'e).length)=34) from H4 _ 34 (by decide)];refine G8 (b:=decide (bt (AA L) (a+(E0[i]'e).length)=39)&&!decide ((E0[i]'e)=[117,56])) (λx y=>?_) w;rw[show AN (vJ (bt (AA L) (a+(E0[i]'e).length)).toNat) (vJ 39)=decide (bt (AA L) (a+(E0[i]'e).length)=39) from H4 _ 39 (by decide)];refine DR (b:=!decide ((E0[i]'e)=[117,56])) (λk3 g=>?_) y;rw[Aar (t:=[117,56]) (l:=2) (c:=14453) rfl rfl,FL];exact g
    rw[o9 e,yw] at k;show V (JW (AA L) a (E0[i]'e)) _ _;refine Bp (λp=>?_) (λp=>?_)
    · rw[p] at k;exact k
    · rw[p] at k;exact Bx (by omega) (fZ b c d f n (i+1) (by omega) e k)
  · have e:i=5:=by have:=of_decide_eq_false e;omega
    subst e;exact k
theorem Acg(b:List UInt8)(a:Nat):Aqk (E0.find? (JW b a))=match EG (b.drop a) with
 |some c=>vJ c
 |none=>yx 0:=by
 have d:Cs (b.drop a) 0=bt b a:=FJ;have f:Cs (b.drop a) 1=bt b (a+1):=FJ;have g:Cs (b.drop a) 2=bt b (a+2):=FJ;have i:∀x:UInt8,x≠0→yu [x] (b.drop a)=decide (bt b a=x):=λx j=>by
  rcases vG a b.length with h|h
  · rw[drop_cons h,Fk,DF h,show yu [] (b.drop (a+1))=true by cases b.drop (a+1)<;>rfl,yz];exact decide_eq_decide.2 eq_comm
  · rw[s8 h,GL h,decide_eq_false (λe=>j e.symm)];rfl
 have k:yu [117,56] (b.drop a)=(decide (bt b a=117)&&decide (bt b (a+1)=56)):=by
  rcases vG a b.length with h|h
  · rw[drop_cons h,Fk,DF h];rcases vG (a+1) b.length with l|l
    · rw[drop_cons l,Fk,DF l,show yu [] (b.drop (a+1+1))=true by cases b.drop (a+1+1)<;>rfl,yz];congr 1<;>exact decide_eq_decide.2 eq_comm
    · rw[s8 l,GL l];show(_&&false)=(_&&false);rw[yA,yA]
  · rw[s8 h,GL h];rfl
 have m:JW b a []=decide (bt b a=34∨bt b a=39):=by unfold JW;rw[show yu [] (b.drop a)=true by cases b.drop a<;>rfl,yy,show a+([]:List UInt8).length=a from rfl,show(!decide (([]:List UInt8)=[117,56]))=true by decide,yz];simp
 have n:∀x:UInt8,x≠0→JW b a [x]=decide (bt b a=x∧(bt b (a+1)=34∨bt b (a+1)=39)):=λx j=>by unfold JW;rw[i x j,show a+[x].length=a+1 from rfl,show(!decide ([x]=[117,56]))=true by simp,yz];simp
 have o:JW b a [117,56]=decide (bt b a=117∧bt b (a+1)=56∧bt b (a+2)=34):=by unfold JW;rw[k,show a+[(117:UInt8),56].length=a+2 from rfl,show(!decide (([117,56]:List UInt8)=[117,56]))=false by decide,yA,Bool.or_false];simp[Bool.and_assoc]
 unfold EG;rw[d,f,g];unfold E0;rw[yw,m];by_cases c0:bt b a=34∨bt b a=39
 · rw[decide_eq_true c0,if_pos c0];rfl
 rw[decide_eq_false c0,if_neg c0];simp only[];rw[yw,n 76 (by decide)];by_cases c3:(bt b a=76∨bt b a=117∨bt b a=85)∧(bt b (a+1)=34∨bt b (a+1)=39)
 · have p:¬(bt b a=117∧bt b (a+1)=56∧bt b (a+2)=34):=λe=>by
    rcases c3.2 with h|h
    · rw[h] at e;exact absurd e.2.1 (by decide)
    · rw[h] at e;exact absurd e.2.1 (by decide)
   rw[if_neg p,if_pos c3];by_cases q:bt b a=76
   · rw[decide_eq_true ⟨q,c3.2⟩];rfl
   rw[decide_eq_false λe=>q e.1];simp only[];rw[yw,n 117 (by decide)];by_cases r:bt b a=117
   · rw[decide_eq_true ⟨r,c3.2⟩];rfl
   rw[decide_eq_false λe=>r e.1];simp only[];have d3:bt b a=85:=by
    rcases c3.1 with h|h|h
    · exact absurd h q
    · exact absurd h r
    · exact h
   rw[yw,n 85 (by decide),decide_eq_true ⟨d3,c3.2⟩];rfl
 · rw[if_neg c3,decide_eq_false λe=>c3 ⟨.inl e.1,e.2⟩];simp only[];rw[yw,n 117 (by decide),decide_eq_false λe=>c3 ⟨.inr (.inl e.1),e.2⟩];simp only[];rw[yw,n 85 (by decide),decide_eq_false λe=>c3 ⟨.inr (.inr e.1),e.2⟩];simp only[];rw[yw,o];by_cases r:bt b a=117∧bt b (a+1)=56∧bt b (a+2)=34
   · rw[decide_eq_true r,if_pos r];rfl
   · rw[decide_eq_false r,if_neg r];rfl
theorem Bhb(b:Wk h pW fl L a vd sp q)(c:L.length≤1000000)(d:a≤L.length){f:KV}(g:∀i,AP h i→f (.int .i64 (match EG ((AA L).drop a) with
 |some f=>vJ f
 |none=>yx 0)) i):W1 (.func 216) [.ptr pW 0] h f:=by
 refine Aqj (n:=7) AJ (Bea ?_);unfold QP;rw[Bdy,Ad];have j:AP h (h.new (.row (Ai (E0.map S) 0 Z5s) 5 0 9 true)):=.new;have k:Rd 1 (h.new (.row (Ai (E0.map S) 0 Z5s) 5 0 9 true)) (.slice h.next 0 5 1 true) (JX E0):=fx rfl;generalize h.new (.row (Ai (E0.map S) 0 Z5s) 5 0 9 true)=h1 at j k ⊢;rw[k.len,Fc];refine fZ (b.ext j) c d k 6 0 (by decide) (by decide) ?_;rw[List.drop_zero,Acg];exact g h1 j
end
end Go.Den
