/-
 Proof.
-/
import Derived.Test.YtmgalljhidgnoaaGreatDoorLpg
open Nat renaming le_refl → vE, lt_or_ge → vG, le_trans → vY, lt_irrefl → yd, not_lt_zero → vH, zero_le → vF
open List renaming length → yI, length_drop → yt, getD_eq_getElem?_getD → vM, getElem?_eq_getElem → wq, length_append → o7, getElem_append_left → yj, getElem_append_right → yl, length_set → yM, getElem_set → yN
open Int renaming ofNat → vJ, negSucc → yx
noncomputable section
namespace Go.Den
open Go.RowKit
set_option maxRecDepth 100000
open Go.Lx (Rn AA Bi Co El Ih EI BQ)
abbrev SU:=List (Nat×Bool)×Nat×Nat×Bool
def MC(L:List Rn)(n e:Nat):Nat:=if e<L.length then Ih L e else n
def DJ(L:List Rn)(n:Nat):Nat→Nat→Nat→List SU
 |0,_,_=>[]
 |k+1,a,fr=>if L.length≤a then[] else((Br L (L.length+2) a false).1,fr,MC L n (Br L (L.length+2) a false).2.1,(Br L (L.length+2) a false).2.2)::DJ L n k ((Br L (L.length+2) a false).2.1+1) (MC L n (Br L (L.length+2) a false).2.1)
def Eu(L:List Rn):Nat→Nat→Bool
 |0,_=>true
 |k+1,a=>if L.length≤a then true else Ej L (L.length+2) a false&&Eu L k ((Br L (L.length+2) a false).2.1+1)
def Ng(n:Nat)(X:List SU):List SU:=match X[X.length-1]? with
 |some y=>X.set (X.length-1) (y.1,y.2.1,n,y.2.2.2)
 |none=>X
theorem Uu(b:List Rn):∀(c a:Nat)(d:Bool),a≤b.length→a≤(Br b c a d).2.1
 |0,a,_,_=>vE _
 |c+1,a,d,f=>by
  have g:=LN b (b.length+2) a d false;unfold Br;split
  · exact g
  · rename_i h;have i:(BM b (b.length+2) a d false).1<b.length:=by
     rcases vG (BM b (b.length+2) a d false).1 b.length with j|j
     · exact j
     · exact absurd (.inl j) h
    have k:=Go.Lx.HX (s:=(AA b).drop (BM b (b.length+2) a d false).1) (λe=>by have:=congrArg yI e;rw[yt,Bj] at this;have:b.length-(BM b (b.length+2) a d false).1=0:=this;omega);rw[yt,Bj] at k;have:=Uu b c ((BM b (b.length+2) a d false).1+(Go.Lx.B7 ((AA b).drop (BM b (b.length+2) a d false).1)).2.1) false (by omega);show a≤(Br b c ((BM b (b.length+2) a d false).1+(Go.Lx.B7 ((AA b).drop (BM b (b.length+2) a d false).1)).2.1) false).2.1;omega
theorem OD(b:List Rn):∀(c a:Nat)(d o:Bool),a≤b.length→(BM b c a d o).1≤b.length
 |0,a,d,o,f=>f
 |c+1,a,d,o,f=>by
  unfold BM;split
  · exact f
  · rename_i g;split
    · exact f
    · split
      · exact OD b c (a+1) true o (by omega)
      · split
        · exact f
        · rename_i n h i;have:=Rt i;rw[yt,Bj] at this;exact OD b c (a+n) true h (by omega)
theorem Up(b:List Rn):∀(c a:Nat)(d:Bool),a≤b.length→(Br b c a d).2.1≤b.length
 |0,a,_,f=>f
 |c+1,a,d,g=>by
  have h:=OD b (b.length+2) a d false g;unfold Br;split
  · exact h
  · rename_i i;have j:(BM b (b.length+2) a d false).1<b.length:=by
     rcases vG (BM b (b.length+2) a d false).1 b.length with f|f
     · exact f
     · exact absurd (.inl f) i
    have k:=Go.Lx.HX (s:=(AA b).drop (BM b (b.length+2) a d false).1) (λe=>by have:=congrArg yI e;rw[yt,Bj] at this;have:b.length-(BM b (b.length+2) a d false).1=0:=this;omega);rw[yt,Bj] at k;exact Up b c ((BM b (b.length+2) a d false).1+(Go.Lx.B7 ((AA b).drop (BM b (b.length+2) a d false).1)).2.1) false (by omega)
theorem nj{a:H}{e:TypeId}{zs cs:List U}{b:Nat}{K:H→Prop}(c:zs.length=b)(d:cs.length=b)(f:1≤b)(g:∀h t,AP a h→h.next.nat=a.next.nat+1→(∀j (i:j<cs.length),AD t j=cs[j])→h.at a.next=.row t b 0 e true→K h):CV b (.ptr a.next 0) (.agg cs) (a.new (rowOf e zs)) K:=by
 have k:(a.new (rowOf e zs)).at a.next=.row (Ai zs 0 .e) b 0 e true:=by rw[AS];unfold rowOf;rw[BU,c]
 refine O3 k (vE _) d f (by omega) (g _ (Ai cs 0 (Ai zs 0 .e)) ⟨by rw[Dc,Bd];omega,λl m=>?_⟩ (by rw[Dc,Bd]) (λj i=>?_) (Bg _ _ _))
 · rw[AQ (λn=>by subst n;omega),CY m]
 · rw[Am,if_pos (by omega),vM,wq (by omega)];simp
theorem AY.low{e:TypeId}{sz lo a:Nat}{b:H}{v:U}{c:List (List U)}(d:AY e sz lo b v c)(f:a≤lo):AY e sz a b v c:=by
 rcases d with d|⟨q,t,g,z,h,i,j,k⟩
 · exact .inl d
 · exact .inr ⟨q,t,g,z,h,i,by omega,k⟩
def FF(lo:Nat)(a:H)(b:List UInt8)(c:List Rn)(Lc:List (List U))(d:List SU):Prop:=Lc.length=d.length∧∀f (g:f<Lc.length) (h:f<d.length),∃i,Lc[f]=[i,.int .i64 (vJ d[f].2.1),.int .i64 (vJ d[f].2.2.1),.bool d[f].2.2.2]∧AY Ci 8 lo a i (FD b c d[f].1)
section
variable{h:H}{pW:P}{fl:List UInt8}{L:List Rn}{a lo:Nat}{D:List (List U)}{sp:Bool}{q:Int}{Lc:List (List U)}{X:List SU}
theorem FF.fr{a:H}(o:FF lo h fl L Lc X)(d:h.next.nat≤a.next.nat)(f:∀c,c.nat<h.next.nat→(∃t g z w,h.at c=.row t g z Ci w)→a.at c=h.at c):FF lo a fl L Lc X:=by refine⟨o.1,λi j k=>?_⟩;obtain⟨l,e,b⟩:=o.2 i j k;exact⟨l,e,b.frame d λc m _ t g z w n=>f c m ⟨t,g,z,w,n⟩⟩
theorem FF.snoc{x:SU}{a:U}(o:FF lo h fl L Lc X)(b:AY Ci 8 lo h a (FD fl L x.1)):FF lo h fl L (Lc++[[a,.int .i64 (vJ x.2.1),.int .i64 (vJ x.2.2.1),.bool x.2.2.2]]) (X++[x]):=by
 have h0:=o.1;refine⟨by rw[o7,o7,h0];rfl,λc d f=>?_⟩;rcases vG c Lc.length with g|g
 · rw[yj g,yj (by omega)];exact o.2 c g (by omega)
 · have e:c=Lc.length:=by rw[o7,List.length_singleton] at d;omega
   subst e;rw[yl (vE _),yl (by omega)];simp only[h0,Nat.sub_self,List.getElem_cons_zero];exact⟨a,rfl,b⟩
theorem FF.fix{n:Nat}(o:FF lo h fl L Lc X)(hi:Lc.length-1<Lc.length):FF lo h fl L (Lc.set (Lc.length-1) ((Lc[Lc.length-1]).set 2 (.int .i64 (vJ n)))) (Ng n X):=by
 have h0:=o.1;have a:X.length-1<X.length:=by omega
 have e:Ng n X=X.set (X.length-1) (X[X.length-1].1,X[X.length-1].2.1,n,X[X.length-1].2.2.2):=by unfold Ng;rw[wq a]
 rw[e];refine⟨by rw[yM,yM,h0],λb c d=>?_⟩;rw[yM] at c d;obtain⟨f,g,i⟩:=o.2 b c d;rw[yN,yN];by_cases j:Lc.length-1=b
 · have k:X.length-1=b:=by omega
   subst j;rw[if_pos rfl,if_pos k,g];simp only[k];exact⟨f,rfl,i⟩
 · have k:¬X.length-1=b:=by omega
   rw[if_neg j,if_neg k];exact⟨f,g,i⟩
def Bee:Tm:=Ai [.Af,.int .i64 (.ofNat 0),.int .i64 (.ofNat 0),.bool false] 0 .e
theorem Afc(a b c d:U)(h:H):AE env 108 (λt f=>Ap 1 [(0,.agg [a,b,c,d])] h t f)=some (.slice h.next 0 1 4 true,h.new (.row (Ai [a,b,c,d] 0 Bee) 4 0 Dd true)):=by kernel_rfl
theorem Afy(x y:U)(h:H):AB env .append [108,108] [x,y] h=BK (some false) x y h Dd (DS Dd):=by kernel_rfl
theorem Axo:(DS Dd).size=4:=by kernel_rfl
theorem sM{n:Nat}(a:n≤1099511627776):Bl (DS Dd) n=true:=G1 (by kernel_rfl) (by kernel_rfl) a
theorem Aas{a h:H}{b d:U}{p:P}{t:Tm}{e fr f:Nat}{o:Bool}{T:List (Nat×Bool)}{K:Int→U→H→Prop}(g:L.length≤1000000)(i:e≤L.length)(j:Wd h pW fl L e D sp q)(k:a.next.nat≤p.nat)(l:p.nat<h.next.nat)(m:pW.nat<a.next.nat)(n:h.at p=.row t 4 0 Dd true)(r:AD t 0=d)(s:AD t 1=.int .i64 (vJ fr))(u:AD t 2=.int .i64 (vJ f))(f3:AD t 3=.bool o)
 (v:a.next.nat≤h.next.nat) (w:∀c,c.nat<a.next.nat→c≠pW→h.at c=a.at c) {x:Tm} (y:a.at pW=.row x 6 0 I3 true) (g:BJ Dd 4 (pW.nat+1) a b Lc) (i:FF (pW.nat+1) a fl L Lc X) (k:AY Ci 8 (pW.nat+1) a d (FD fl L T)) (l:Lc.length≤2000000)
 (m:∀l x,Wd x pW fl L (e+1) D sp q→BJ Dd 4 (pW.nat+1) x l (Lc++[[d,.int .i64 (vJ fr),.int .i64 (vJ f),.bool o]])→FF (pW.nat+1) x fl L (Lc++[[d,.int .i64 (vJ fr),.int .i64 (vJ f),.bool o]]) (X++[(T,fr,f,o)])→a.next.nat≤x.next.nat→(∀c,c.nat<pW.nat→x.at c=a.at c)→K (vJ f) l x):
 oK (Ag (.ptr pW 0) h) λa0 a1=>Ac 2 a0 λa2=>Z a2 a1 λa0=>Ar .i64 a0 λa2=>fI (wrap .i64 (AW a2 (vJ 1))) λa0=>
  oK (Ag (.ptr pW 0) a1) λa2 a3=>Ac 2 a2 λa1=>BC a1 (.int .i64 a0) a3 λa2=>
   Ac 2 (.ptr p 0) λa0=>Z a0 a2 λa1=>Ar .i64 a1 λa3=>A3 4 (.ptr p 0) a2 λa0=>
    oK (AE env 108 (λe a1=>Ap 1 [(0,a0)] a2 e a1)) λa4 a5=>
     oK (AB env .append [108,108] [b,a4] a5) λa0 a1=>K a3 a0 a1:=by
 have a2:p≠pW:=λe=>by subst e;omega
 refine j.pos (Bx (by omega) (j.setPos (b:=e+1) (Nat.le_succ _) λj a4 a5 a0 a1=>?_));have a3:j.at p=.row t 4 0 Dd true:=by rw[a0 p a2];exact n
 rw[Ae];refine C6 a3 (by decide) ?_;rw[show AD t (0+2)=.int .i64 (vJ f) from u,AG];refine Xu (c:=4) a3 (by decide) ?_;rw[show Cp t 4 0=[AD t 0,AD t 1,AD t 2,AD t 3] from rfl,r,s,u,f3,Afc,Ad,Afy];have kp:∀c,c.nat<a.next.nat→c≠pW→j.at c=a.at c:=λc n r=>by rw[a0 c r,w c n r]
 have s:a.next.nat≤j.next.nat:=by rw[a5];exact v
 have u:BJ Dd 4 (pW.nat+1) j b Lc:=g.frame s λc n _ r w a v b=>kp c n λq=>by subst q;rw[y] at b;cases b
 have g:FF (pW.nat+1) j fl L Lc X:=i.fr s λc n ⟨r,w,a,v,b⟩=>kp c n λq=>by subst q;rw[y] at b;cases b
 have i:AY Ci 8 (pW.nat+1) j d (FD fl L T):=k.frame s λc n _ r w a v b=>kp c n λq=>by subst q;rw[y] at b;cases b
 have k:pW.nat+1≤j.next.nat:=by omega
 refine VQ (lo:=pW.nat+1) (ds:=[d,.int .i64 (vJ fr),.int .i64 (vJ f),.bool o]) (u.ext .new) rfl Axo (sM (by omega)) (by rw[Bd];omega) rfl rfl λl x y k=>?_;have d:Ft Dd (pW.nat+1) j x:=(AP.GD .new).trans k;have j:FF (pW.nat+1) x fl L Lc X:=g.fr d.1 λc n ⟨r,w,a,v,b⟩=>d.2 c n (.inr λk s u a g=>by rw[b] at g;cases g);refine m l x (a1.GD d (vE _) (by decide)) y (j.snoc (x:=(T,fr,f,o)) (i.GD d (by decide))) (vY s d.1) λc n=>?_;rw[d.2 c (by omega) (.inl (by omega)),kp c (by omega) λe=>by subst e;exact yd _ n]
structure LnK(hE:H)(fl:List UInt8)(L:List Rn)(X:List SU)(cl:Bool)(k:KV):Prop where
 go:∀h' lo vo vd D Lc,AP hE h'→hE.next.nat≤lo→lo≤h'.next.nat→BJ Dd 4 lo h' vo Lc→FF lo h' fl L Lc X→AY CC 4 lo h' vd D→(cl=true→D=[])→D.length≤L.length+1→k (.tuple [vo,vd]) h'
theorem ru(b:L.length≤1000000){c:H}{d:List UInt8}(f:d.length≤900000){g:KV}:∀(i n:Nat){h:H}{a fr:Nat}{D:List (List U)}{sp:Bool}{q:Int}{Lc:List (List U)}{X:List SU}{j:U},L.length+1-a<i→2*i≤n→D.length≤a→a≤L.length+1→Lc.length≤a→c.next.nat≤pW.nat→AP c h→Wd h pW fl L a D sp q→BJ Dd 4 (pW.nat+1) h j Lc→FF (pW.nat+1) h fl L Lc X→
    ∀{C0:Bool}(_:C0=true→D=[]),LnK c fl L (Ng d.length (X++DJ L d.length i a fr)) (C0&&Eu L i a) g→(NQ W1 g n).a1 d.length (enc d) j (.ptr pW 0) (vJ fr) h
  |0,n,h,a,fr,D,sp,q,Lc,X,j,k,_,_,_,_,_,_,_,_,_,_,_,_=>absurd k (vH _)
  |i+1,n,h,a,fr,D,sp,q,Lc,X,j,k,l,m,o,p,r,x,s,u,w,C0,y,K=>by
    obtain⟨n,rfl⟩:∃k,n=k+1:=⟨n-1,by omega⟩;refine Axh ?_;unfold WJ;refine s.pos (s.l λv l=>?_);rw[l.len,B6,Cr];obtain⟨n,rfl⟩:∃i,n=i+1:=⟨n-1,by omega⟩;have o:=s.n;refine Bp (λp=>?_) (λp=>?_)
    · have p:a<L.length:=of_decide_eq_true p;obtain⟨l,o,_⟩:=s.w;obtain⟨l,a0⟩:=o.Jp;refine c68 b m (by omega) s λl D1 o a1 a2 a3 a4 a5 a6 a7=>?_;have le:=Uu L (L.length+2) a false (by omega);have X1:AP c l:=a3.PX x (by omega) r;obtain⟨m,a8,_⟩:=a4.w;obtain⟨m,a9⟩:=a8.Jp;have m:BJ Dd 4 (pW.nat+1) l j Lc:=u.frame a3.1 λp a8 _ t i z s e=>a3.2 p a8 (λq=>by subst q;rw[a0] at e;cases e) (.inr λb0 b1 b2 b3 b4=>by rw[e] at b4;cases b4);have b5:FF (pW.nat+1) l fl L Lc X:=w.fr a3.1 λp a8 ⟨t,i,z,s,e⟩=>a3.2 p a8 (λq=>by subst q;rw[a0] at e;cases e) (.inr λb0 b1 b2 b3 b4=>by rw[e] at b4;cases b4);have a6:=a6.low (show pW.nat+1≤h.next.nat by omega);have a3:=a4.n;refine BX ?_;refine nj (e:=Dd) (zs:=[.Af,.int .i64 (.ofNat 0),.int .i64 (.ofNat 0),.bool false]) (cs:=[a2,.int .i64 (.ofNat 0),.int .i64 (.ofNat 0),.bool (Br L (L.length+2) a false).2.2]) rfl rfl (by decide) λa0 b0 b6 b7 b8 b9=>?_;have c0:AD b0 0=a2:=b8 0 (by show 0<4;decide);have c1:AD b0 3=.bool (Br L (L.length+2) a false).2.2:=b8 3 (by show 3<4;decide);rw[Ae];refine FU b9 (vF _) (by decide) rfl ?_;have c2:∀p,p≠l.next→(a0.put l.next (.row (Ai [.int .i64 (vJ fr)] (0+1) b0) 4 0 Dd true)).at p=a0.at p:=λp a8=>AQ a8;have r3:(a0.put l.next (.row (Ai [.int .i64 (vJ fr)] (0+1) b0) 4 0 Dd true)).at l.next=.row (Ai [.int .i64 (vJ fr)] (0+1) b0) 4 0 Dd true:=Bg _ _ _;have b3:=a4.ext b6;have w3:Wd (a0.put l.next (.row (Ai [.int .i64 (vJ fr)] (0+1) b0) 4 0 Dd true)) pW fl L _ D1 a1 o:=b3.Sc (by omega) b9 (by decide) rfl c2;have a4:(a0.put l.next (.row (Ai [.int .i64 (vJ fr)] (0+1) b0) 4 0 Dd true)).next.nat=l.next.nat+1:=b7;generalize a0.put l.next (.row (Ai [.int .i64 (vJ fr)] (0+1) b0) 4 0 Dd true)=h3 at c2 r3 w3 a4 ⊢;rw[Ae];refine FU r3 (vF _) (by decide) rfl ?_;have b9:∀p,p≠l.next→(h3.put l.next (.row (Ai [.int .i64 (vJ d.length)] (0+2) (Ai [.int .i64 (vJ fr)] (0+1) b0)) 4 0 Dd true)).at p=h3.at p:=λp a8=>AQ a8;have b7:(h3.put l.next (.row (Ai [.int .i64 (vJ d.length)] (0+2) (Ai [.int .i64 (vJ fr)] (0+1) b0)) 4 0 Dd true)).at l.next=.row (Ai [.int .i64 (vJ d.length)] (0+2) (Ai [.int .i64 (vJ fr)] (0+1) b0)) 4 0 Dd true:=Bg _ _ _;have w4:Wd (h3.put l.next (.row (Ai [.int .i64 (vJ d.length)] (0+2) (Ai [.int .i64 (vJ fr)] (0+1) b0)) 4 0 Dd true)) pW fl L _ D1 a1 o:=w3.Sc (by omega) r3 (by decide) rfl b9;have a0:(h3.put l.next (.row (Ai [.int .i64 (vJ d.length)] (0+2) (Ai [.int .i64 (vJ fr)] (0+1) b0)) 4 0 Dd true)).next.nat=l.next.nat+1:=a4;generalize h3.put l.next (.row (Ai [.int .i64 (vJ d.length)] (0+2) (Ai [.int .i64 (vJ fr)] (0+1) b0)) 4 0 Dd true)=h4 at b9 b7 w4 a0 ⊢;have a4:AD (Ai [.int .i64 (vJ d.length)] (0+2) (Ai [.int .i64 (vJ fr)] (0+1) b0)) 0=a2:=by rw[Am,Am];simpa using c0
      have c0:AD (Ai [.int .i64 (vJ d.length)] (0+2) (Ai [.int .i64 (vJ fr)] (0+1) b0)) 1=.int .i64 (vJ fr):=by rw[Am,Am];simp
      have c3:AD (Ai [.int .i64 (vJ d.length)] (0+2) (Ai [.int .i64 (vJ fr)] (0+1) b0)) 2=.int .i64 (vJ d.length):=by rw[Am];simp
      have f3:AD (Ai [.int .i64 (vJ d.length)] (0+2) (Ai [.int .i64 (vJ fr)] (0+1) b0)) 3=.bool (Br L (L.length+2) a false).2.2:=by rw[Am,Am];simpa using c1
      generalize Ai [.int .i64 (vJ d.length)] (0+2) (Ai [.int .i64 (vJ fr)] (0+1) b0)=t4 at b7 a4 c0 c3 f3;have c1:∀p,p.nat<l.next.nat→h4.at p=l.at p:=λp a8=>by
        have c4:p≠l.next:=λe=>by subst e;exact yd _ a8
        rw[b9 p c4,c2 p c4,b6.2 p a8]
      have b6:DJ L d.length (i+1) a fr=((Br L (L.length+2) a false).1,fr,MC L d.length (Br L (L.length+2) a false).2.1,(Br L (L.length+2) a false).2.2)::DJ L d.length i ((Br L (L.length+2) a false).2.1+1) (MC L d.length (Br L (L.length+2) a false).2.1):=by
        conv=>lhs;unfold DJ
        rw[if_neg (by omega)]
      have b9:Eu L (i+1) a=(Ej L (L.length+2) a false&&Eu L i ((Br L (L.length+2) a false).2.1+1)):=by
        conv=>lhs;unfold Eu
        rw[if_neg (by omega)]
      rw[b6,b9] at K;have c2:D1.length≤(Br L (L.length+2) a false).2.1:=a7;have c4:(Br L (L.length+2) a false).2.1≤L.length:=Up L (L.length+2) a false (by omega);have push:∀{c2:H}{a7:Tm}(_:Wd c2 pW fl L (Br L (L.length+2) a false).2.1 D1 a1 o)(_:c2.at l.next=.row a7 4 0 Dd true)(_:AD a7 0=a2)(_:AD a7 1=.int .i64 (vJ fr))(_:AD a7 2=.int .i64 (vJ (MC L d.length (Br L (L.length+2) a false).2.1)))(_:AD a7 3=.bool (Br L (L.length+2) a false).2.2)(_:c2.next.nat=l.next.nat+1)(_:∀p,p.nat<l.next.nat→c2.at p=l.at p),(NQ W1 g (n+1)).a2 d.length (enc d) j (.ptr pW 0) (.ptr l.next 0) c2:=λw5 r5 j o b8 g3 a1 a2=>by
        refine Auh ?_;unfold XZ;refine Aas (T:=(Br L (L.length+2) a false).1) b c4 w5 (vE _) (by omega) a3 r5 j o b8 g3 (by omega) (λp a8 _=>a2 p a8) a9 m b5 a6 (by omega) λj o w6 z6 a7 c2 a1=>?_;refine ru b f i n (by omega) (by omega) (by omega) (by omega) (by rw[o7];simp;omega) r ⟨vY X1.1 c2,λp a8=>by rw[a1 p (by omega),X1.2 p a8]⟩ w6 z6 a7 (C0:=C0&&Ej L (L.length+2) a false) (λz=>?_) ?_
        · simp only[Bool.and_eq_true] at z;rw[(a5 z.2).1,y z.1]
        · rw[List.append_assoc,Bool.and_assoc];exact K
      refine w4.pos (w4.l λm o=>?_);rw[o.len,B6,Cr];refine Bp (λb=>?_) (λb=>?_)
      · have b:(Br L (L.length+2) a false).2.1<L.length:=of_decide_eq_true b;refine w4.l λj f=>w4.pos (uY f b ?_);rw[Ae];refine FU b7 (vF _) (by decide) rfl ?_;have r:MC L d.length (Br L (L.length+2) a false).2.1=L[(Br L (L.length+2) a false).2.1].2.2:=by unfold MC Ih;rw[if_pos b,vM,wq b];rfl
        have a2:∀p,p≠l.next→(h4.put l.next (.row (Ai [.int .i64 (vJ L[(Br L (L.length+2) a false).2.1].2.2)] (0+2) t4) 4 0 Dd true)).at p=h4.at p:=λp a8=>AQ a8;refine push (w4.Sc (by omega) b7 (by decide) rfl a2) (Bg _ _ _) ?_ ?_ ?_ ?_ a0 λp a8=>?_
        · rw[Am];simpa using a4
        · rw[Am];simpa using c0
        · rw[Am,r];simp
        · rw[Am];simpa using f3
        · rw[a2 p λe=>by subst e;exact yd _ a8,c1 p a8]
      · have b:=of_decide_eq_false b;have r:MC L d.length (Br L (L.length+2) a false).2.1=d.length:=by unfold MC;rw[if_neg b]
        exact push w4 b7 a4 c0 (by rw[r];exact c3) f3 a0 c1
    · have p:=of_decide_eq_false p;have b6:DJ L d.length (i+1) a fr=[]:=by unfold DJ;rw[if_pos (by omega)]
      have b9:Eu L (i+1) a=true:=by unfold Eu;rw[if_pos (by omega)]
      rw[b6,b9,List.append_nil,Bool.and_true] at K;have fin:∀{m:H}{Lc':List (List U)}{o:U},AP c m→Wd m pW fl L a D sp q→BJ Dd 4 (pW.nat+1) m o Lc'→FF (pW.nat+1) m fl L Lc' (Ng d.length X)→(NQ W1 g (n+1)).a3 o (.ptr pW 0) m:=λj f l r=>by refine Asj ?_;unfold Yb;obtain⟨i,c,g⟩:=f.w;refine c.dg ?_;exact K.go _ (pW.nat+1) _ _ D _ j (by omega) f.n l r g y (by omega)
      rw[u.n.len,show Ba (vJ 0) (vJ Lc.length)=decide (0<Lc.length) from Cr _ _];refine Bp (λb=>?_) (λb=>?_)
      · have b:0<Lc.length:=of_decide_eq_true b;rw[u.n.len];refine JK b (by omega) ?_;have hi:Lc.length-1<Lc.length:=by omega
        refine Cy (u.set (x:=.int .i64 (vJ d.length)) hi (by decide) rfl λm l o k=>?_);have r:FF (pW.nat+1) m fl L Lc X:=w.fr o.1 λp a8 ⟨i,c,l,f,g⟩=>o.2 p a8 (.inr λb0 b1 b2 b3 b4=>by rw[g] at b4;cases b4);exact fin (o.PX x (by omega)) (s.GD o (vE _) (by decide)) l (r.fix hi)
      · have b:=of_decide_eq_false b;have j:X=[]:=List.eq_nil_of_length_eq_zero (by have:=w.1;omega);subst j;exact fin x s u w
theorem Adp(l c:Nat)(n:Int)(h:H):AF env (env.ty I3) [(0,(.str l c)),(1,.Af),(5,(.int .i64 n))] h=some (.agg [.str l c,.Af,.int .i64 (.ofNat 0),.Af,.bool false,.int .i64 n],h):=by kernel_rfl
theorem rO(l c:Nat)(b:P)(o m z:Nat)(x:Bool)(n:Int)(h:H):AF env (env.ty I3) [(0,(.str l c)),(1,.slice b o m z x),(5,(.int .i64 n))] h=some (.agg [.str l c,.slice b o m z x,.int .i64 (.ofNat 0),.Af,.bool false,.int .i64 n],h):=by kernel_rfl
theorem c39{a:List UInt8}(b:a.length≤900000){c:H}{d:KV}(K:LnK c fl (BQ a) (Ng a.length (DJ (BQ a) a.length ((BQ a).length+2) 0 0)) (Eu (BQ a) ((BQ a).length+2) 0) d):W1 (.func 39) [S fl,S a] c d:=by
 have f:=Pu a;refine w39 (n:=2*(BQ a).length+5) AJ (g39 ?_);unfold Wy;refine c67 b λg h i k=>?_;have eb:AF env (env.ty I3) [(0,(.str fl.length (enc fl))),(1,h),(5,(.int .i64 (yx 0)))] g=some (.agg [S fl,h,.int .i64 (.ofNat 0),.Af,.bool false,.int .i64 (yx 0)],g):=by
  rcases k.sl with rfl|⟨l,o,n,z,t,rfl⟩
  · exact Adp _ _ _ _
  · exact rO _ _ _ _ _ _ _ _ _
 rw[eb,Ad,CB];refine CA (by simp) (BX ?_);have m:AP g (g.new (rowOf I3 [S fl,h,.int .i64 (.ofNat 0),.Af,.bool false,.int .i64 (yx 0)])):=.new;have p:(g.new (rowOf I3 [S fl,h,.int .i64 (.ofNat 0),.Af,.bool false,.int .i64 (yx 0)])).next.nat=g.next.nat+1:=Bd;have r:(g.new (rowOf I3 [S fl,h,.int .i64 (.ofNat 0),.Af,.bool false,.int .i64 (yx 0)])).at g.next=.row (Ai [S fl,h,.int .i64 (.ofNat 0),.Af,.bool false,.int .i64 (yx 0)] 0 .e) 6 0 I3 true:=AS _ _;generalize g.new (rowOf I3 [S fl,h,.int .i64 (.ofNat 0),.Af,.bool false,.int .i64 (yx 0)])=h2 at m p r ⊢;have s:∀j (u:j<6),AD (Ai [S fl,h,.int .i64 (.ofNat 0),.Af,.bool false,.int .i64 (yx 0)] 0 .e) j=[S fl,h,.int .i64 (.ofNat 0),.Af,.bool false,.int .i64 (yx 0)][j]:=λj u=>by rw[Am,if_pos ⟨vF _,by show j<0+6;omega⟩,vM,wq (by show j-0<6;omega)];simp
 have v:Wk h2 g.next fl (BQ a) 0 .Af false (yx 0):=by
  refine⟨by omega,_,r,s 0 (by decide),?_,?_,s 2 (by decide),s 3 (by decide),s 4 (by decide),s 5 (by decide)⟩
  · rw[s 1 (by decide)];exact k.OA.ext m
  · rw[s 1 (by decide)];intro q o n z l e;have e:h=.slice q o n z l:=e;rcases k with⟨rfl,_⟩|⟨w,t,x,y,c,rfl,d,f,_⟩
    · cases e
    · cases e;exact f
 refine ru (pW:=g.next) (by omega) b ((BQ a).length+2) _ (by omega) (by omega) (vF _) (vF _) (vF _) i.1 (i.trans m) (D:=[]) ⟨⟨.Af,v,.inl ⟨rfl,rfl⟩⟩,vF _⟩ (.inl ⟨rfl,rfl⟩) ⟨rfl,λp g=>absurd g (vH _)⟩ (C0:=true) (X:=[]) (λ_=>rfl) ?_;rw[List.nil_append,Bool.true_and];exact K
end
end Go.Den
