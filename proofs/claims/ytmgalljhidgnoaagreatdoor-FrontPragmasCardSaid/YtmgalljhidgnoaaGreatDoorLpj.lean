/-
 Proof.
-/
import Derived.Test.YtmgalljhidgnoaaGreatDoorChk
import Derived.Test.YtmgalljhidgnoaaGreatDoorIst
import Derived.Test.YtmgalljhidgnoaaGreatDoorLph
import Derived.Test.YtmgalljhidgnoaaGreatDoorVls
import Derived.Test.YtmgalljhidgnoaaGreatDoorSml
open List renaming getElem?_eq_getElem → wq, length_take → ym, length_drop → yt, getElem_take → yP, getElem_drop → yQ, length_set → yM, length_cons → l6, length_nil → yO, length_append → o7, getElem_append → yR, getD_eq_getElem?_getD → vM, mem_cons → vw, mem_cons_self → yS, mem_cons_of_mem → xK, not_mem_nil → yT, map_cons → yU, length_map → s9
open Int renaming ofNat → vJ
open Nat renaming zero_le → vF, le_refl → vE, le_trans → vY, zero_add → wJ, succ_le_succ → yV, le_succ_of_le → yW, add → vN, beq → vS, ble_eq_true_of_le → wY, ble → vU
noncomputable section
namespace Go.Den
open Go.RowKit
set_option maxRecDepth 100000
def oB(x:Yx):List UInt8×Int×Int:=match x.st[x.st.length-1]? with
 |some y=>(y.fl,y.f,y.t)
 |none=>(x.fl,x.f,x.t)
def jV(x:Yx):List U:=[S (oB x).1,.int .i64 (oB x).2.1,.int .i64 (oB x).2.2]
theorem lj{x:Yx}(h:x.st.length-1<x.st.length):jV x=[S x.st[x.st.length-1].fl,.int .i64 x.st[x.st.length-1].f,.int .i64 x.st[x.st.length-1].t]:=by unfold jV oB;rw[wq h]
theorem Ul{x:Yx}(h:x.st=[]):jV x=[S x.fl,.int .i64 x.f,.int .i64 x.t]:=by unfold jV oB;rw[h];rfl
theorem fh{a b:Nat}{K:Int→Prop}(c:b≤a)(d:a≤1000000000)(f:K (vJ (a-b))):fI (wrap .i64 (EU (vJ a) (vJ b))) K:=by rw[RG c,C9 (by omega),BW];exact f
theorem Baf{b:H}{x:Yx}(c:tc 5 b x.sv (uS x.st))(d:x.st.length≤1000){f:KV}(g:∀h,AP b h→f (.agg (jV x)) h):W1 (.func 133) [.agg x.cs] b f:=by
 refine Apo (n:=1) AJ (Bgv ?_);unfold Qb;rw[CB];refine CA (λe=>by cases e) (BX ?_);have i:AP b (b.new (rowOf 48 x.cs)):=.new;have j:b.next.nat<(b.new (rowOf 48 x.cs)).next.nat:=by rw[Bd];omega
 have k:Dl (b.new (rowOf 48 x.cs)) b.next 0 x.cs:=Dl.newRow;generalize b.new (rowOf 48 x.cs)=h1 at i k j ⊢;refine BX ?_;have l:AP h1 (h1.new Mz):=.new;have sv:∀{K:U→Prop},K x.sv→Ac 7 (.ptr b.next 0) λa=>Z a (h1.new Mz) K:=λm=>by rw[Ae];exact(k.ext l j).Z (j:=7) (by show 7<8;decide) m
 refine sv ?_;rw[c.len,aP,show Ba (vJ 0) (vJ x.st.length)=decide (0<x.st.length) from Cr _ _];have fin:∀n,AP h1 n→Dl n h1.next 0 (jV x)→A3 3 (.ptr h1.next 0) n λv=>f v n:=λn p r=>r.A3 rfl (g n (i.trans p));refine Bp (λe=>?_) (λe=>?_)
 · have e:0<x.st.length:=of_decide_eq_true e;refine sv (fh e (by omega) ?_);have s:x.st.length-1<x.st.length:=by omega
   have t:x.st.length-1<(uS x.st).length:=by rw[aP];exact s
   refine Cy ((c.rd t).elem t λq o u _ w=>?_);rw[sD s] at w;rw[Ae];refine(w.ext (i.trans l) u).uc (j:=1) (c:=3) (by show 1+3≤5;decide) ?_;refine GW (e:=45) (zs:=[(.str 0 0),(.int .i64 (vJ 0)),(.int .i64 (vJ 0))]) rfl rfl (by decide) λn p y d=>?_;exact fin n p (by rw[lj s];exact d)
 · have e:x.st=[]:=List.eq_nil_of_length_eq_zero (by have:=of_decide_eq_false e;omega);refine Tp3 (k.ext l j) ?_;refine GW (e:=45) (zs:=[(.str 0 0),(.int .i64 (vJ 0)),(.int .i64 (vJ 0))]) rfl rfl (by decide) λn p y d=>?_;exact fin n p (by rw[Ul e];exact d)
theorem jB(l:List Nat)(n:Nat):aZ (l++[n])=aZ l++[[.int .i64 (.ofNat n)]]:=by unfold aZ;rw[List.map_append];rfl
theorem rk{lo:Nat}{a:H}{v:U}{l:List Nat}{b:Nat}(c:AY 3 1 lo a v (aZ l))(d:l.length≤1000000)(f:lo≤a.next.nat){g:KV}(h:∀i j,AY 3 1 lo j i (aZ (l++[b]))→Ft 3 lo a j→g i j):
 oK (AE env 58 (λe k=>Ap 1 [(0,.int .i64 (vJ b))] a e k)) λx j=>oK (AB env .append [58,58] [v,x] j) g:=by
 rw[Bft,Ad,Atz];exact LM (ds:=[.int .i64 (vJ b)]) (.inr c) rfl sz3 (Awo (by rw[sG];omega)) f (by rw[jB] at h;exact h)
end Go.Den
namespace Go.Den
open Go.RowKit
set_option maxRecDepth 100000
open Go.Lx (Rn AA BQ)
def AH(a:H)(p:P)(e:TypeId)(cs:List U):Prop:=∃t,a.at p=.row t cs.length 0 e true∧∀j (b:j<cs.length),AD t j=cs[j]
section
variable{h:H}{p:P}{e:TypeId}{cs:List U}
theorem AH.of{h':H}(r:AH h p e cs)(c:h'.at p=h.at p):AH h' p e cs:=by obtain⟨t,a,b⟩:=r;exact⟨t,by rw[c];exact a,b⟩
theorem AH.ext{h':H}(r:AH h p e cs)(x:AP h h')(a:p.nat<h.next.nat):AH h' p e cs:=r.of (x.2 p a)
theorem AH.GD{c:H}{d:TypeId}{lo:Nat}(r:AH h p e cs)(x:Ft d lo h c)(f:p.nat<h.next.nat)(g:e≠d):AH c p e cs:=by obtain⟨t,a,b⟩:=r;exact⟨t,by rw[x.2 p f (.inr λi j k l m=>by rw[a] at m;cases m;exact g rfl)];exact a,b⟩
theorem AH.kpl{a:H}{b:TypeId}{lo:Nat}(r:AH h p e cs)(x:Ft b lo h a)(c:p.nat<h.next.nat)(d:p.nat<lo):AH a p e cs:=r.of (x.2 p c (.inl d))
theorem AH.Z{K:U→Prop}(r:AH h p e cs){j:Nat}(c:j<cs.length)(d:K cs[j]):Z (.ptr p j) h K:=by obtain⟨t,a,b⟩:=r;exact C6 a c (by rw[b j c];exact d)
theorem AH.sub(r:AH h p e cs){o:Nat}{b:List U}(c:(cs.drop o).take b.length=b)(d:1≤b.length):Dl h p o b:=by
 obtain⟨t,a,f⟩:=r;have g:=congrArg List.length c;rw[ym,yt] at g;refine .row t _ 0 e true a (by omega) λj i=>?_;rw[f (o+j) (by omega)];have:b[j]=((cs.drop o).take b.length)[j]'(by rw[ym,yt];omega):=by simp only[c]
 rw[this,yP,yQ]
theorem AH.A3{K:U→Prop}(r:AH h p e cs){o c:Nat}{ds:List U}(a:ds.length=c)(b:(cs.drop o).take ds.length=ds)(d:1≤ds.length)(f:K (.agg ds)):A3 c (.ptr p o) h K:=(r.sub b d).A3 a f
theorem AH.BC{K:H→Prop}(r:AH h p e cs){j:Nat}{v:U}{cs':List U}(d:j<cs.length)(f:v.one=true)(g:cs.set j v=cs')(i:∀h',h'.next=h.next→(∀c,c≠p→h'.at c=h.at c)→AH h' p e cs'→K h'):BC (.ptr p j) v h K:=by
 obtain⟨t,a,b⟩:=r;refine FU a (vF _) d f (i _ rfl (λc k=>AQ k) ?_);subst g;refine⟨_,by rw[yM];exact Bg _ _ _,λl hi=>?_⟩;rw[yM] at hi;rw[Am,List.getElem_set];by_cases c:j=l
 · subst c;rw[if_pos ⟨vE _,by simp⟩,if_pos rfl];simp
 · rw[if_neg (by simp only[l6,yO];omega),if_neg c];exact b l hi
theorem AH.CV{K:H→Prop}(r:AH h p e cs){o c:Nat}{ds cs':List U}(d:ds.length=c)(f:1≤c)(g:o+c≤cs.length)(i:cs.take o++ds++cs.drop (o+c)=cs')(j:∀h',h'.next=h.next→(∀c,c≠p→h'.at c=h.at c)→AH h' p e cs'→K h'):CV c (.ptr p o) (.agg ds) h K:=by
 obtain⟨t,a,b⟩:=r;refine O3 a (vF _) d f g (j _ rfl (λc d=>AQ d) ?_);have k:cs'.length=cs.length:=by rw[←i,o7,o7,ym,yt];omega
 refine⟨_,by rw[k];exact Bg _ _ _,λl hi=>?_⟩;subst i;rw[k] at hi;rw[Am,yR];by_cases m:l<o+c
 · have n:l<(cs.take o++ds).length:=by rw[o7,ym];omega
   rw[dif_pos n,yR];by_cases q:l<o
   · have:l<(cs.take o).length:=by rw[ym];omega
     rw[if_neg (by omega),dif_pos this,yP];exact b l hi
   · have:¬l<(cs.take o).length:=by rw[ym];omega
     rw[if_pos (by omega),dif_neg this,vM,wq (by omega)];simp only[Option.getD_some];congr 1;rw[ym];omega
 · have n:¬l<(cs.take o++ds).length:=by rw[o7,ym];omega
   rw[dif_neg n,if_neg (by omega),yQ,b l hi];congr 1;rw[o7,ym];omega
end
theorem newRow{a:H}{o:Ob FT}{e:TypeId}{cs:List U}{K:P→H→Prop}(b:o=rowOf e cs)(c:∀d,AP a d→d.next.nat=a.next.nat+1→AH d a.next e cs→K a.next d):Hp.Bu a o K:=by
 subst b;refine BX (c _ .new Bd ⟨Ai cs 0 .e,?_,λj f=>?_⟩)
 · rw[AS];unfold rowOf;rw[BU]
 · rw[Am,if_pos ⟨vF _,by omega⟩,vM,Nat.sub_zero,wq f];rfl
theorem AP.Gr{a b c:H}{p:P}(x:AP a b)(d:a.next.nat≤p.nat)(f:c.next=b.next)(g:∀h,h≠p→c.at h=b.at h):AP a c:=⟨by rw[f];exact x.1,λh i=>by rw[g h λe=>by subst e;omega,x.2 h i]⟩
def O8:Nat→List UInt8→List Nat
 |_,[]=>[]
 |i,x::r=>if x=10 then(i+1)::O8 (i+1) r else O8 (i+1) r
theorem ZJ:∀(s:List UInt8)(i:Nat),(O8 i s).length≤s.length
 |[],_=>vE _
 |x::r,i=>by
  have:=ZJ r (i+1);unfold O8;split
  · simp only[l6];omega
  · simp only[l6];omega
theorem Pb(x:UInt8):∀(s:List UInt8)(i:Nat),O8 i (s++[x])=O8 i s++(if x=10 then[i+s.length+1] else[])
 |[],i=>by show O8 i [x]=[]++_;simp only[O8,List.nil_append,yO,Nat.add_zero]
 |y::r,i=>by
  show O8 i (y::(r++[x]))=_;unfold O8;rw[Pb x r (i+1)];have e:i+1+r.length+1=i+(y::r).length+1:=by simp only[l6];omega
  rw[e];split
  · rfl
  · rfl
def EV(s:List UInt8):List SU:=Ng s.length (DJ (BQ s) s.length ((BQ s).length+2) 0 0)
def JT(s:List UInt8):Bool:=Eu (BQ s) ((BQ s).length+2) 0
structure RI(lo:Nat)(h:H)(fl s:List UInt8)(vo vd vs:U)(D Lc:List (List U)):Prop where
 z:BJ Dd 4 lo h vo Lc
 o:FF lo h fl (BQ s) Lc (EV s)
 d:AY CC 4 lo h vd D
 st:AY 3 1 lo h vs (aZ (O8 0 s))
 c:JT s=true→D=[]
 dl:D.length≤s.length+2
theorem RI.keep{lo:Nat}{h h':H}{fl s:List UInt8}{vo vd vs:U}{D Lc:List (List U)}(r:RI lo h fl s vo vd vs D Lc)(hn:h.next.nat≤h'.next.nat)(hf:∀c,c.nat<h.next.nat→lo≤c.nat→(∃t m z e w,h.at c=.row t m z e w∧(e=Dd∨e=Ci∨e=CC∨e=3))→h'.at c=h.at c):RI lo h' fl s vo vd vs D Lc where
 z:=r.z.frame hn λc hc hl t m z w e=>hf c hc hl ⟨t,m,z,_,w,e,.inl rfl⟩
 o:=by refine⟨r.o.1,λi h1 h2=>?_⟩;obtain⟨vt,e,b⟩:=r.o.2 i h1 h2;exact⟨vt,e,b.frame hn λc hc hl t m z w e=>hf c hc hl ⟨t,m,z,_,w,e,.inr (.inl rfl)⟩⟩
 d:=r.d.frame hn λc hc hl t m z w e=>hf c hc hl ⟨t,m,z,_,w,e,.inr (.inr (.inl rfl))⟩
 st:=r.st.frame hn λc hc hl t m z w e=>hf c hc hl ⟨t,m,z,_,w,e,.inr (.inr (.inr rfl))⟩
 c:=r.c
 dl:=r.dl
theorem dI{a:H}{b c:List UInt8}(d:c.length≤900000){lo:Nat}(f:a.next.nat≤lo){p:P}(g:a.next.nat≤p.nat)(h:p.nat<lo){i j:U}{k Lc:List (List U)}(l:k.length≤c.length+2){m:KV}(o:∀s u,AP a s→RI lo s b c i j u k Lc→m (.agg [i,j,u]) s):∀(n v:Nat){w:H}{u:U},c.length-v<n→v≤c.length→AP a w→p.nat<w.next.nat→lo≤w.next.nat→AH w p 110 [i,j,u]→BJ Dd 4 lo w i Lc→FF lo w b (BQ c) Lc (EV c)→AY CC 4 lo w j k→(JT c=true→k=[])→AY 3 1 lo w u (aZ (O8 0 (c.take v)))→(Z5 W1 m n).a1 c.length (enc c) (.ptr p 0) (vJ c.length) (vJ v) w
 |0,_,_,_,x,_,_,_,_,_,_,_,_,_,_=>absurd x (Nat.not_lt_zero _)
 |n+1,v,w,u,x,hi,y,b,k,r,m,s,a0,a1,a2=>by
  refine Aut ?_;unfold Vm;rw[Cr];refine Bp (λe=>?_) (λe=>?_)
  · have e:v<c.length:=of_decide_eq_true e;have x:c.take (v+1)=c.take v++[c[v]]:=by rw[List.take_add_one,wq e];rfl
    have a3:(c.take v).length=v:=by rw[ym];omega
    have a4:=ZJ (c.take v) 0;rw[a3] at a4;refine Cy (Ev e ?_);rw[Pv _ 10 (by decide)];refine Bp (λa4=>?_) (λa4=>?_)
    · have a4:c[v]=10:=of_decide_eq_true a4;rw[Ae];refine r.Z (j:=2) (by show 2<3;decide) (Bx (by omega) ?_);refine rk (l:=O8 0 (c.take v)) a2 (by omega) k λa5 a6 a7 k4=>?_;have a8:AP a a6:=k4.PX y f;rw[Ae];refine(r.kpl k4 b h).BC (j:=2) (cs':=[i,j,a5]) (by show 2<3;decide) a7.one rfl λa6 a5 f5 r5=>?_;have a9:AP a a6:=a8.Gr g a5 f5;have a:w.next.nat≤a6.next.nat:=by rw[a5];exact k4.1
      have fr:∀a8,a8.nat<w.next.nat→lo≤a8.nat→∀{t b0 z e b1},w.at a8=.row t b0 z e b1→e≠3→a6.at a8=w.at a8:=λa8 w a6 {t b0 z e b1} b2 b3=>by rw[f5 a8 (λq=>by subst q;omega),k4.2 a8 w (.inr λb4 b5 b6 b7 b8=>by rw[b2] at b8;cases b8;exact b3 rfl)]
      refine Bx (by omega) (dI d f g h l o n (v+1) (by omega) e a9 (Nat.lt_of_lt_of_le b a) (vY k a) r5 (m.frame a λa8 w a6 t b0 z b1 b2=>fr a8 w a6 b2 (by decide)) ?_ (a0.frame a λa8 w a6 t b0 z b1 b2=>fr a8 w a6 b2 (by decide)) a1 ?_)
      · refine⟨s.1,λv b4 b5=>?_⟩;obtain⟨b6,e,b7⟩:=s.2 v b4 b5;exact⟨b6,e,b7.frame a λa8 w a6 t b0 z b1 b2=>fr a8 w a6 b2 (by decide)⟩
      · rw[x,Pb,if_pos a4,a3,wJ];exact a7.frame (by rw[a5];exact vE _) λa8 _ a6 t b0 z b1 _=>f5 a8 λq=>by subst q;omega
    · have a4:¬c[v]=10:=of_decide_eq_false a4;refine Bx (by omega) (dI d f g h l o n (v+1) (by omega) e y b k r m s a0 a1 ?_);rw[x,Pb,if_neg a4,List.append_nil];exact a2
  · have e:v=c.length:=by have:=of_decide_eq_false e;omega
    subst e;rw[List.take_length] at a2;refine r.A3 (o:=0) (ds:=[i,j,u]) rfl rfl (by simp) ?_;refine r.CV (o:=0) (ds:=[i,j,u]) (cs':=[i,j,u]) rfl (by decide) (by simp) rfl λb4 a w b=>?_;refine b.A3 (o:=0) (ds:=[i,j,u]) rfl rfl (by simp) ?_;refine o _ _ (y.Gr g a w) (RI.keep ⟨m,s,a0,a2,a1,l⟩ (by rw[a];exact vE _) λa4 _ a6 _=>w a4 λq=>by subst q;omega)
theorem bV{a:H}{b c:List UInt8}(d:c.length≤900000){f:KV}(g:∀lo h i j k l Lc,a.next.nat≤lo→AP a h→RI lo h b c i j k l Lc→f (.agg [i,j,k]) h):W1 (.func 15) [S b,S c] a f:=by
 refine w15 (n:=c.length+3) AJ (ZL ?_);unfold VT;refine newRow (e:=110) (cs:=[.Af,.Af,.Af]) rfl λm n o p=>?_;refine c39 d ⟨λq lo i j l Lc r s u v w x y b=>?_⟩;rw[Dw,Dt];have f:=p.ext r (by omega);have h:=r.1;rw[Ae];refine f.BC (j:=0) (cs':=[i,.Af,.Af]) (by show 0<3;decide) v.one rfl λo b f3 r3=>?_;rw[Ae];refine r3.BC (j:=1) (cs':=[i,j,.Af]) (by show 1<3;decide) x.one rfl λs u p h=>?_;have f:AP a s:=((n.trans r).Gr (vE _) b f3).Gr (vE _) u p;have o:s.next.nat=q.next.nat:=by rw[u,b]
 have fr:∀n,lo≤n.nat→s.at n=q.at n:=λn r=>by
  have o:n≠a.next:=λe=>by subst e;omega
  rw[p n o,f3 n o]
 refine dI d (lo:=lo) (by omega) (vE _) (by omega) (by have:=Pu c;omega) (λb k u s=>g lo b i j k l Lc (by omega) u s) _ 0 (by omega) (vF _) f (by omega) (by omega) h (v.frame (by omega) λn _ r t a z o _=>fr n r) ⟨w.1,λp m q=>?_⟩ (x.frame (by omega) λn _ r t a z o _=>fr n r) y (.inl ⟨rfl,rfl⟩);obtain⟨d,e,c⟩:=w.2 p m q;exact⟨d,e,c.frame (by omega) λn _ r t a z o _=>fr n r⟩
end Go.Den
noncomputable section
namespace Go.Den
open Go.RowKit
set_option maxRecDepth 100000
abbrev Cn:=List (List UInt8×Nat)
def cE:Cn→Nat→Es
 |[],_=>[]
 |x::r,i=>(S x.1,.int .i64 (vJ x.2),i)::cE r (i+1)
theorem fM:∀(L:Cn)(i:Nat),(cE L i).length=L.length
 |[],_=>rfl
 |_::r,i=>by rw[cE,l6,fM r,l6]
def cnt(b:List UInt8):Cn→Nat
 |[]=>0
 |x::r=>if b=x.1 then x.2 else cnt b r
def inc(b:List UInt8):Cn→Cn
 |[]=>[(b,1)]
 |x::r=>if b=x.1 then(x.1,x.2+1)::r else x::inc b r
theorem Zm(b:List UInt8):∀L:Cn,(inc b L).length≤L.length+1
 |[]=>vE _
 |x::r=>by
  have:=Zm b r;unfold inc;split
  · simp only[l6];omega
  · simp only[l6];omega
theorem aX(a:List UInt8):∀(b:Cn),∀x∈inc a b,x.1=a∨∃c∈b,c.1=x.1
 |[],x,d=>by
  have:x=(a,1):=by simpa[inc] using d
  exact .inl (by rw[this])
 |c::r,x,d=>by
  unfold inc at d;split at d
  · rcases vw.1 d with e|e
    · exact .inr ⟨c,yS,by rw[e]⟩
    · exact .inr ⟨x,xK _ e,rfl⟩
  · rcases vw.1 d with e|e
    · exact .inr ⟨c,yS,by rw[e]⟩
    · rcases aX a r x e with q|⟨z,f,q⟩
      · exact .inl q
      · exact .inr ⟨z,xK _ f,q⟩
theorem inc_le(a:List UInt8){n:Nat}:∀(b:Cn),(∀x∈b,x.2≤n)→∀x∈inc a b,x.2≤n+1
 |[],_,x,c=>by
  have:x=(a,1):=by simpa[inc] using c
  rw[this];exact Nat.le_add_left 1 n
 |d::r,f,x,c=>by
  have g:=f d yS;unfold inc at c;split at c
  · rcases vw.1 c with e|e
    · rw[e];exact yV g
    · exact yW (f x (xK _ e))
  · rcases vw.1 c with e|e
    · rw[e];exact yW g
    · exact inc_le a r (λz h=>f z (xK _ h)) x e
theorem iH(b:List UInt8){n:Nat}:∀(a:Cn),(∀x∈a,x.2≤n)→cnt b a≤n
 |[],_=>vF _
 |c::r,d=>by
  unfold cnt;split
  · exact d c yS
  · exact iH b r λz f=>d z (xK _ f)
structure DI(L:Cn)(n:Nat):Prop where
 ap:(L.map (·.1)).Nodup
 sh:∀x∈L,x.1.length≤1000000
 len:L.length≤n
 val:∀x∈L,x.2≤n
theorem DI.nil:DI [] 0:=⟨List.nodup_nil,λ_ h=>absurd h yT,vE _,λ_ h=>absurd h yT⟩
theorem Um(b:List UInt8):∀L:Cn,(inc b L).map (·.1)=if b∈L.map (·.1) then L.map (·.1) else L.map (·.1)++[b]
 |[]=>rfl
 |x::r=>by
  have:=Um b r;unfold inc;by_cases e:b=x.1
  · rw[if_pos e,if_pos (by rw[e];simp)];rfl
  · rw[if_neg e,yU,this,yU];by_cases m:b∈r.map (·.1)
    · rw[if_pos m,if_pos (xK _ m)]
    · rw[if_neg m,if_neg λq=>(vw.1 q).elim e m];rfl
theorem DI.inc{L:Cn}{n:Nat}{b:List UInt8}(c:DI L n)(hb:b.length≤1000000):DI (inc b L) (n+1) where
 ap:=by
  rw[Um];split
  · exact c.ap
  · rename_i m;exact List.nodup_append.2 ⟨c.ap,List.pairwise_singleton _ _,λx hx y hy=>by
     have:y=b:=by simpa using hy
     subst this;exact λe=>m (by rw[←e];exact hx)⟩
 sh:=λx hx=>by
  rcases aX b L x hx with e|⟨y,hy,e⟩
  · rw[e];exact hb
  · rw[←e];exact c.sh y hy
 len:=vY (Zm b L) (yV c.len)
 val:=inc_le b L c.val
theorem qf(b:List UInt8):∀(a:Cn)(c j:Nat),(Cb (S b) (cE a c) j=some none∧cnt b a=0∧inc b a=a++[(b,1)])∨∃d,d<a.length∧Cb (S b) (cE a c) j=some (some (.int .i64 (vJ (cnt b a)),c+d,j+d))∧setAt (S b,.int .i64 (vJ (cnt b a+1)),c+d) d (cE a c)=cE (inc b a) c∧(inc b a).length=a.length
 |[],_,_=>.inl ⟨rfl,rfl,rfl⟩
 |x::r,c,j=>by
  have e:Cb (S b) (cE (x::r) c) j=(Bool.rec (Cb (S b) (cE r (c+1)) (vN j 1)) (some (some (.int .i64 (vJ x.2),c,j))) (CL b.length (enc b) x.1.length (enc x.1)):Option MW):=rfl;rw[e,En];by_cases q:b=x.1
  · rw[decide_eq_true q];refine .inr ⟨0,by simp,?_,?_,?_⟩
    · unfold cnt;rw[if_pos q];rfl
    · unfold cnt Go.Den.inc;rw[if_pos q,if_pos q,q];rfl
    · unfold Go.Den.inc;rw[if_pos q];rfl
  · rw[decide_eq_false q];rcases qf b r (c+1) (vN j 1) with⟨f,g,h⟩|⟨d,i,f,g,h⟩
    · refine .inl ⟨f,?_,?_⟩
      · unfold cnt;rw[if_neg q];exact g
      · unfold Go.Den.inc;rw[if_neg q,h];rfl
    · refine .inr ⟨d+1,by simp;omega,?_,?_,?_⟩
      · have k:cnt b (x::r)=cnt b r:=by rw[cnt,if_neg q]
        rw[k];have l:c+1+d=c+(d+1):=by omega
        have m:vN j 1+d=j+(d+1):=by show j+1+d=_;omega
        rw[l,m] at f;exact f
      · have k:cnt b (x::r)=cnt b r:=by rw[cnt,if_neg q]
        have n:Go.Den.inc b (x::r)=x::Go.Den.inc b r:=by rw[Go.Den.inc,if_neg q]
        rw[k,n];have l:c+1+d=c+(d+1):=by omega
        rw[l] at g;show(S x.1,.int .i64 (vJ x.2),c)::setAt _ d (cE r (c+1))=(S x.1,.int .i64 (vJ x.2),c)::cE (Go.Den.inc b r) (c+1);rw[g]
      · unfold Go.Den.inc;rw[if_neg q,l6,h,l6]
theorem aU(x:List UInt8×Nat):∀(L:Cn)(i:Nat),cE (L++[x]) i=cE L i++[(S x.1,.int .i64 (vJ x.2),i+L.length)]
 |[],i=>rfl
 |y::r,i=>by
  show cE (y::(r++[x])) i=_;rw[cE,aU x r,cE];have:i+1+r.length=i+(y::r).length:=by simp only[l6];omega
  rw[this];rfl
def Ct(h:H)(m:P)(L:Cn):Prop:=h.at m=.map (cE L 0) L.length
theorem Ajs(q:P)(l c:Nat)(h:H):BO env 100 (.map q) (.str l c) false h=(Option.rec none (λp=>CW env 3 false (Cb (.str l c) p.1 0) h) (EJ (h.at q)):Option (U×H)):=by kernel_rfl
theorem pZ(v:U)(b i:Nat)(h:H):CW env 3 false (some (some (v,b,i))) h=some (v,h):=by kernel_rfl
theorem Aek(h:H):CW env 3 false (some none) h=some (.int .i64 (.ofNat 0),h):=by kernel_rfl
theorem mr(q:P)(l c:Nat)(v:U)(h:H):Cg env 100 (.map q) (.str l c) v h=(Option.rec none (λp=>HL q (.str l c) v p.1 p.2 (Cb (.str l c) p.1 0) h) (EJ (h.at q)):Option (U×H)):=by kernel_rfl
theorem Ct.add{a:H}{c:P}{L:Cn}{n:Nat}(r:Ct a c L)(d:DI L n)(f:n≤100000000){b:List UInt8}{K:H→Prop}(g:∀h,h.next=a.next→(∀d,d≠c→h.at d=a.at d)→Ct h c (inc b L)→K h):
 oK (BO env 100 (.map c) (.str b.length (enc b)) false a) λv i=>Ar .i64 v λn=>fI (wrap .i64 (AW n (vJ 1))) λj=>oK (Cg env 100 (.map c) (.str b.length (enc b)) (.int .i64 j) i) λ_ k=>K k:=by
 have l:a.at c=.map (cE L 0) L.length:=r;have m:=iH b L d.val;rw[Ajs,l];show oK (CW env 3 false (Cb (S b) (cE L 0) 0) a) _;rcases qf b L 0 0 with⟨i,k,o⟩|⟨p,_,i,k,o⟩
 · rw[i,Aek,Ad,AG];refine Bx (a:=0) (b:=1) (by decide) ?_;rw[mr,l];show oK (HL c (S b) (.int .i64 (vJ 1)) (cE L 0) L.length (Cb (S b) (cE L 0) 0) a) _;rw[i];show oK (some (.undef,a.put c (.map (Eh (cE L 0) [(S b,.int .i64 (vJ 1),L.length)]) (vN L.length 1)))) _;rw[Ad];refine g _ rfl (λd m=>AQ m) ?_;unfold Ct;rw[Bg,OP,o,aU,o7,wJ];rfl
 · rw[i,pZ,Ad,AG];refine Bx (a:=cnt b L) (b:=1) (by omega) ?_;rw[mr,l];show oK (HL c (S b) (.int .i64 (vJ (cnt b L+1))) (cE L 0) L.length (Cb (S b) (cE L 0) 0) a) _;rw[i];show oK (some (.undef,a.put c (.map (setAt (S b,.int .i64 (vJ (cnt b L+1)),0+p) (0+p) (cE L 0)) L.length))) _;rw[Ad];refine g _ rfl (λd m=>AQ m) ?_;unfold Ct;rw[Bg,show(0+p)=p from wJ p];rw[wJ] at k;rw[k,o]
theorem Z4:∀(L:Cn)(i:Nat),(cE L i).map (λe=>e.1)=(L.map (·.1)).map sv
 |[],_=>rfl
 |x::r,i=>by rw[cE,yU,Z4 r (i+1)];rfl
theorem WS:∀(a:Cn)(b:Nat),∀e∈cE a b,(∃x∈a,e.1=S x.1)∧b≤e.2.2∧e.2.2<b+a.length
 |[],_,e,c=>absurd c yT
 |x::r,b,e,c=>by
  rw[cE] at c;rcases vw.1 c with q|q
  · subst q;exact⟨⟨x,yS,rfl⟩,vE _,by show b<b+(r.length+1);omega⟩
  · obtain⟨⟨d,f,g⟩,h,i⟩:=WS r (b+1) e q;exact⟨⟨d,xK _ f,g⟩,by omega,by rw[l6];omega⟩
theorem U2:∀(b:Cn)(c:Nat),(b.map (·.1)).Nodup→Nb (cE b c)=true
 |[],_,_=>rfl
 |x::r,c,d=>by
  rw[yU,List.nodup_cons] at d;show An (TE (λf=>An (Bm (Tj (S x.1) f.1)) (Bm (vS c f.2.2))) (cE r (c+1))) (Nb (cE r (c+1)))=true;rw[U2 r (c+1) d.2,Jq.2 λf g=>?_]
  · rfl
  · obtain⟨⟨h,i,j⟩,k,_⟩:=WS r (c+1) f g;rw[j];have a:Tj (S x.1) (S h.1)=false:=by show CL x.1.length (enc x.1) h.1.length (enc h.1)=false;rw[En,decide_eq_false λq=>d.1 (by rw[q];exact List.mem_map_of_mem i)]
    have l:vS c f.2.2=false:=by
     cases q:vS c f.2.2 with
     |false=>rfl
     |true=>have:=Nat.eq_of_beq_eq_true q;omega
    rw[a,l];rfl
theorem Atl{b:Cn}{n:Nat}(c:DI b n)(d:n≤1000):Nt (cE b 0) b.length=true:=by
 have f:=c.len;unfold Nt;rw[BU,fM,wY (by omega),U2 b 0 c.ap,Jq.2 λe g=>?_]
 · rfl
 · obtain⟨⟨h,i,j⟩,_,k⟩:=WS b 0 e g;have a:Qj e.1=true:=by rw[j];exact wY (c.sh h i)
   have l:vU (vN e.2.2 1) b.length=true:=wY (by show e.2.2+1≤_;omega);rw[a,l];rfl
theorem uW{a:P}{K:Prop}(b:K):one (.map a) K:=b
theorem c38{a:H}{b:P}{c:KV}(d:∀f p,AP a f→AH f p 100 [.map b]→a.next.nat≤p.nat→p.nat<f.next.nat→c (.func (.func 66) [] [.ptr p 0]) f):W1 (.func 38) [.map b] a c:=by refine w38 (n:=1) AJ (g38 ?_);unfold XN;show one (.map b) _;refine uW ?_;refine newRow (e:=100) (cs:=[.map b]) rfl λg h i j=>?_;exact d g a.next h j (vE _) (by omega)
theorem NV{a:H}{b p:P}{c:Cn}{n:Nat}(d:Ct a b c)(f:DI c n)(g:n≤1000)(r:AH a p 100 [.map b]){h:KV}(i:∀k l,AP a k→(∀q o n z m,l=.slice q o n z m→a.next.nat≤q.nat)→CI 1 k l (JX (Ht (c.map (·.1))))→h l k):W1 (.func 37) [.func (.func 66) [] [.ptr p 0]] a h:=by
 refine Ada ?_;obtain⟨t,s,u⟩:=r;show V (An (vS 66 66) (vS 0 0)) (match a.at p with
  |.row t n _ _ v=>V (An v (vU 1 n)) (UM (AD t 0) (λb=>match a.at b with
   |.map w y=>Xn w y a h
   |_=>False)) False
  |_=>False) False
 rw[s];refine By rfl ?_;show V (An true (vU 1 1)) (UM (AD t 0) (λb=>match a.at b with
  |.map w y=>Xn w y a h
  |_=>False)) False
 refine By rfl ?_;rw[show AD t 0=.map b from u 0 (by show 0<1;decide)];show(match a.at b with
  |.map w y=>Xn w y a h
  |_=>False)
 rw[show a.at b=.map (cE c 0) c.length from d];show Xn (cE c 0) c.length a h;unfold Xn;refine By (Atl f g) ?_;rw[MR,O0 _ _ (Z4 c 0)];generalize l:Ht (c.map (·.1))=T at i;cases T with
 |nil=>exact i a .Af .refl (λq o n z m e=>by cases e) (.inl ⟨rfl,rfl⟩)
 |cons x r=>
  show Hp.Bu a (.row (Ai ((x::r).map sv) 0 .e) (len ((x::r).map sv)) 0 9 false) (λm k=>h (.slice m 0 (len ((x::r).map sv)) 1 false) k);refine BX ?_;rw[BU];have v:((x::r).map sv).length=(JX (x::r)).length:=by rw[s9,Fc]
  refine i _ _ .new (λq o n z m e=>by cases e;exact vE _) (.inr (Rd.row a.next 0 (Ai ((x::r).map sv) 0 .e) ((x::r).map sv).length 0 9 false false (by rw[v]) (by rw[Bd];omega) (AS _ _) (by rw[v];omega) λs hi=>?_));have u:s<(x::r).length:=by rw[Fc] at hi;exact hi
  rw[KW u hi];refine⟨rfl,λj w=>?_⟩;have y:j=0:=by simp only[l6,yO] at w;omega
  subst y;rw[Am,if_pos ⟨by omega,by rw[s9];omega⟩,vM,wq (by rw[s9];omega)];simp only[Option.getD_some,List.getElem_map];congr 1;simp
end Go.Den
