/-
 Proof.
-/
import Derived.Test.YtmgalljhidgnoaaGreatDoorLpe
open Nat renaming zero_le → vF, beq → vS, add → vN, mul → vO, le_refl → vE, beq_refl → wZ, ble_eq_true_of_le → wY, mul_le_mul_right → xb, succ_mul → wK, le_trans → vY, lt_of_lt_of_le → vZ
open Bool renaming rec → wg, and_eq_true → vK, not_eq_true' → xV
open List renaming length_append → o7, length_set → yM, getElem_set → yN, length_cons → l6, length_nil → yO, length_drop → yt
open Int renaming ofNat → vJ
noncomputable section
namespace Go.Den
open Go.RowKit
set_option maxRecDepth 100000
open Go.Lx (Rn AA Bi Co El Ih EI)
abbrev Dd:TypeId:=157
def BJ(e:TypeId)(sz lo:Nat)(h:H)(v:U)(L:List (List U)):Prop:=(v=.Af∧L=[])∨∃q t m w,v=.slice q 0 L.length sz false∧lo≤q.nat∧q.nat<h.next.nat∧h.at q=.row t m 0 e w∧L.length*sz≤m∧E5 sz 0 t L
theorem BJ.n{e:TypeId}{sz lo:Nat}{a:H}{v:U}{L:List (List U)}(b:BJ e sz lo a v L):AY e sz lo a v L:=by
 rcases b with⟨rfl,rfl⟩|⟨q,t,m,w,rfl,c,d,f,g,h⟩
 · exact .inl ⟨rfl,rfl⟩
 · exact .inr ⟨q,t,m,0,w,rfl,c,d,f,g,vF _,h⟩
theorem BJ.frame{e:TypeId}{sz lo:Nat}{h h':H}{v:U}{a:List (List U)}(b:BJ e sz lo h v a)(d:h.next.nat≤h'.next.nat)(f:∀c,c.nat<h.next.nat→lo≤c.nat→(∀t g z i,h.at c=.row t g z e i→h'.at c=h.at c)):BJ e sz lo h' v a:=by
 rcases b with⟨rfl,rfl⟩|⟨q,t,g,i,rfl,j,k,l,m⟩
 · exact .inl ⟨rfl,rfl⟩
 · exact .inr ⟨q,t,g,i,rfl,j,by omega,by rw[f q k j _ _ _ _ l];exact l,m⟩
theorem BJ.ext{e:TypeId}{sz lo:Nat}{h h':H}{v:U}{L:List (List U)}(a:BJ e sz lo h v L)(b:AP h h'):BJ e sz lo h' v L:=a.frame b.1 λc d _ _ _ _ _ _=>b.2 c d
theorem VQ{e:TypeId}{sz lo:Nat}{b:TI}{a h0:H}{p:P}{v:U}{L:List (List U)}{ds:List U}{t:Tm}(g:BJ e sz lo a v L)(h:ds.length=sz)(a6:b.size=sz)(a1:Bl b (L.length+1)=true)(l:lo≤a.next.nat)(a2:h0.new (.row (Ai ds 0 t) sz 0 e true)=a)(a5:p=h0.next){c:KV}(k:∀m f,BJ e sz lo f m (L++[ds])→Ft e lo a f→c m f):
 oK (BK (some false) v (.slice p 0 1 sz true) a e b) c:=by
 have a7:BH a sz (.slice p 0 1 sz true)=some (1,ds):=by subst a2 a5;exact Lv h
 generalize (U.slice p 0 1 sz true)=x at*;have a3:C7 v=L.length:=by rcases g with⟨rfl,rfl⟩|⟨_,_,_,_,rfl,_⟩<;>rfl
 have a4:Da v=true:=by rcases g with⟨rfl,rfl⟩|⟨_,_,_,_,rfl,_⟩<;>rfl
 have r:BK (some false) v x a e b=Dx e sz v 1 ds a:=by show(Option.rec none (λp=>wg none (wg (Dx e b.size v p.1 p.2 a) (some (v,a)) (vS p.1 0)) (An (Da v) (Bl b (vN (C7 v) p.1)))) (BH a b.size x):Option (U×H))=_;rw[a6,a7];show(wg none (Dx e sz v 1 ds a) (An (Da v) (Bl b (vN (C7 v) 1))):Option (U×H))=_;rw[a3,a4,show Bl b (vN L.length 1)=true from a1];rfl
 rw[r];rcases g with⟨rfl,rfl⟩|⟨q,t,a8,b1,rfl,a9,b0,j,u,w⟩
 · show oK (some (U.slice a.next 0 1 sz false,a.new (.row (Ai ds 0 .e) (vO 1 sz) 0 e false))) c;rw[Ad];refine k (.slice a.next 0 1 sz false) (a.new (.row (Ai ds 0 .e) (vO 1 sz) 0 e false)) (.inr ⟨a.next,Ai ds 0 .e,vO 1 sz,false,rfl,l,by rw[Bd];omega,AS _ _,vE _,?_⟩) .new;have:=E5.app (t:=.e) (E5.nil (sz:=sz) (o:=0)) h;rwa [show([]:List (List U)).length*sz=0 by simp] at this
 · have s:Dx e sz (.slice q 0 L.length sz false) 1 ds a=(wg none (JU e q 0 L.length 1 sz ds a (CG (a.at q))) (vS sz sz):Option (U×H)):=rfl;rw[s,wZ,j];show oK (wg none (some (.slice a.next 0 (vN L.length 1) sz false,(a.put q .dead).new (.row (Ai ds (vN 0 (vO L.length sz)) t) (vN 0 (vO (vN L.length 1) sz)) 0 e false)))
    (An (An (vS e e) (vS 0 0)) (An (Nat.ble (vN 0 (vO L.length sz)) a8) (Nat.ble 0 (vN 0 (vO L.length sz)))))) c
   have n:vN 0 (vO L.length sz)=L.length*sz:=Nat.zero_add _;rw[n,wZ,wY u,wY (vF _)];show oK (some (U.slice a.next 0 (vN L.length 1) sz false,(a.put q .dead).new (.row (Ai ds (L.length*sz) t) (vN 0 (vO (vN L.length 1) sz)) 0 e false))) c;rw[Ad];refine k _ _ (.inr ⟨a.next,_,_,false,?_,l,?_,AS (a.put q .dead) _,?_,w.app h⟩) ⟨?_,λi y d=>?_⟩
   · rw[o7];rfl
   · show a.next.nat<(P.succ a.next).nat;rw[P.Ce];omega
   · rw[o7];show(L.length+1)*sz≤0+(L.length+1)*sz;omega
   · show a.next.nat≤(P.succ a.next).nat;rw[P.Ce];omega
   · have a0:i≠q:=λo=>by
      subst o;rcases d with d|d
      · omega
      · exact d _ _ _ _ j
     rw[CY (show i.nat<(a.put q .dead).next.nat from y),AQ a0]
theorem BJ.one{e:TypeId}{sz lo:Nat}{a:H}{v:U}{M:List (List U)}(b:BJ e sz lo a v M):v.one=true:=b.n.one
theorem BJ.set{e:TypeId}{sz lo:Nat}{b:H}{v:U}{c:List (List U)}(d:BJ e sz lo b v c){i j:Nat}{x:U}(hi:i<c.length)(f:j<sz)(g:x.one=true){K:H→Prop}(h:∀k,BJ e sz lo k v (c.set i ((c[i]).set j x))→Ft e lo b k→k.next=b.next→K k):A7 sz i v λa=>Ac j a λa=>BC a x b K:=by
 rcases d with⟨rfl,rfl⟩|⟨q,t,l,m,rfl,n,o,p,r,s⟩
 · cases hi
 · refine N2 hi ?_;rw[Ae];have u:(i+1)*sz≤c.length*sz:=xb _ hi;rw[wK] at u;refine FU p (vF _) (by omega) g ?_;refine h _ (.inr ⟨q,_,l,m,by rw[yM],n,o,Bg _ _ _,by rw[yM];exact r,λw y=>?_⟩) ⟨vE _,λf k b=>AQ λd=>?_⟩ rfl
   · rw[yM] at y;rw[yN];by_cases f:i=w
     · subst f;rw[if_pos rfl];refine⟨by rw[yM];exact(s i hi).1,λc u=>?_⟩;rw[yM] at u;rw[Am,yN];by_cases g:j=c
       · subst g;rw[if_pos (by simp),if_pos rfl];simp
       · rw[if_neg (by simp;omega),if_neg g];exact(s i hi).2 c u
     · rw[if_neg f];refine⟨(s w y).1,λc u=>?_⟩;have h:c<sz:=by rw[←(s w y).1];exact u
       rw[Am,if_neg ?_]
       · exact(s w y).2 c u
       · simp only[l6,yO];rcases Nat.lt_or_gt_of_ne f with f|f
         · have:(i+1)*sz≤w*sz:=xb _ f;rw[wK] at this;omega
         · have:(w+1)*sz≤i*sz:=xb _ f;rw[wK] at this;omega
   · subst d;rcases b with b|b
     · omega
     · exact b _ _ _ _ p
def Br(b:List Rn):Nat→Nat→Bool→List (Nat×Bool)×Nat×Bool
 |0,a,_=>([],a,false)
 |k+1,a,c=>if b.length≤(BM b (b.length+2) a c false).1∨bt (AA b) (BM b (b.length+2) a c false).1=10 then([],(BM b (b.length+2) a c false).1,(BM b (b.length+2) a c false).2.2)
  else(((BM b (b.length+2) a c false).1,(BM b (b.length+2) a c false).2.1)::(Br b k ((BM b (b.length+2) a c false).1+(Go.Lx.B7 ((AA b).drop (BM b (b.length+2) a c false).1)).2.1) false).1,(Br b k ((BM b (b.length+2) a c false).1+(Go.Lx.B7 ((AA b).drop (BM b (b.length+2) a c false).1)).2.1) false).2)
def Ej(b:List Rn):Nat→Nat→Bool→Bool
 |0,_,_=>true
 |k+1,a,c=>if b.length≤(BM b (b.length+2) a c false).1∨bt (AA b) (BM b (b.length+2) a c false).1=10 then !(BM b (b.length+2) a c false).2.2
  else !N8 ((AA b).drop (BM b (b.length+2) a c false).1)&&Ej b k ((BM b (b.length+2) a c false).1+(Go.Lx.B7 ((AA b).drop (BM b (b.length+2) a c false).1)).2.1) false
def FD(a:List UInt8)(b:List Rn)(c:List (Nat×Bool)):List (List U):=c.map λx=>Ic a b x.1 x.2
theorem Rx(a:List UInt8)(b:List Rn)(c:List (Nat×Bool)):(FD a b c).length=c.length:=List.length_map ..
theorem LN(b:List Rn):∀(c a:Nat)(d o:Bool),a≤(BM b c a d o).1
 |0,a,d,o=>vE _
 |c+1,a,d,o=>by
  unfold BM;split
  · exact vE _
  · split
    · exact vE _
    · split
      · exact vY (Nat.le_succ _) (LN b c (a+1) true o)
      · split
        · exact vE _
        · rename_i n f _;exact vY (Nat.le_add_right _ _) (LN b c (a+n) true f)
def Z48:Tm:=Ai Fs 0 .e
theorem dt(a b c d e f g h:U)(i:H):AE env 30 (λt j=>Ap 1 [(0,.agg [a,b,c,d,e,f,g,h])] i t j)=some (.slice i.next 0 1 8 true,i.new (.row (Ai [a,b,c,d,e,f,g,h] 0 Z48) 8 0 Ci true)):=by kernel_rfl
theorem SS(x y:U)(h:H):AB env .append [30,30] [x,y] h=BK (some false) x y h Ci (DS Ci):=by kernel_rfl
theorem Yv:(DS Ci).size=8:=by kernel_rfl
theorem Nx{n:Nat}(a:n≤1099511627776):Bl (DS Ci) n=true:=G1 (by kernel_rfl) (by kernel_rfl) a
section
variable{h:H}{pW:P}{fl:List UInt8}{L:List Rn}{a:Nat}{D:List (List U)}{sp:Bool}{q:Int}
structure WM(h0 h:H)(pW p:P)(T:List (List U)):Prop where
 fr:Ee CC (pW.nat+1) pW h0 h
 row:∃t o,h.at p=.row t 4 0 Dd true∧AY Ci 8 h0.next.nat h (AD t 0) T∧AD t 1=.int .i64 (.ofNat 0)∧AD t 2=.int .i64 (.ofNat 0)∧AD t 3=.bool o
 n1:p.nat<h.next.nat
 l1:h0.next.nat≤p.nat
theorem WM.Gd{h0 h a:H}{p:P}{b:List (List U)}(c:WM h0 h pW p b)(d:pW.nat<h0.next.nat)(x:Ee CC (pW.nat+1) pW h a){t:Tm}(f:h.at pW=.row t 6 0 I3 true):WM h0 a pW p b:=by obtain⟨g,o,i,j,r3⟩:=c.row;have k:=c.l1;have l:a.at p=h.at p:=x.2 p c.n1 (λe=>by subst e;omega) (.inr λm n q r s=>by rw[i] at s;cases s);exact⟨c.fr.trans x,⟨g,o,by rw[l];exact i,j.Gd x (by decide) f (by decide),r3⟩,vZ c.n1 x.1,k⟩
theorem WM.ext{h0 h h':H}{p:P}{a:List (List U)}(b:WM h0 h pW p a)(x:AP h h'):WM h0 h' pW p a:=by obtain⟨c,o,d,f,r3⟩:=b.row;exact⟨b.fr.trans x.Gd,⟨c,o,by rw[x.2 _ b.n1];exact d,f.ext x,r3⟩,vZ b.n1 x.1,b.l1⟩
theorem Wd.Sc{b:H}{p:P}{t:Tm}{d z:Nat}{e:TypeId}{f:Bool}(s:Wd h pW fl L a D sp q)(g:pW.nat<p.nat)(i:h.at p=.row t d z e f)(j:CC≠e)(k:b.next=h.next)(l:∀c,c≠p→b.at c=h.at c):Wd b pW fl L a D sp q:=by obtain⟨m,n,o⟩:=s.w;exact⟨⟨m,n.keep (by rw[k];exact vE _) λc r=>l c λe=>by subst e;omega,o.frame (by rw[k];exact vE _) λc _ _ u v w x y=>l c λb=>by subst b;rw[i] at y;cases y;exact j rfl⟩,s.len⟩
theorem uX(b:L.length≤1000000){d:H}(f:pW.nat<d.next.nat){p:P}{g:KV}:∀(n:Nat){h:H}{a:Nat}{D:List (List U)}{sp:Bool}{q:Int}{i:List (List U)},L.length+1-a≤n→D.length≤a→a≤L.length→i.length≤a→WM d h pW p i→Wd h pW fl L a D sp q→
    (∀j D' k l m,Ee CC (pW.nat+1) pW d j→Wd j pW fl L (Br L n a sp).2.1 D' l k→(Ej L n a sp=true→D'=D∧k=q)→AY Ci 8 d.next.nat j m (i++FD fl L (Br L n a sp).1)→D'.length≤(Br L n a sp).2.1→g (.agg [m,.int .i64 (.ofNat 0),.int .i64 (.ofNat 0),.bool (Br L n a sp).2.2]) j)→
    (ax W1 g n).a1 (.ptr pW 0) (.ptr p 0) h
  |0,h,a,D,sp,q,i,o,_,r,_,_,_,_=>absurd o (by omega)
  |n+1,h,a,D,sp,q,i,o,t,r,u,v,s,w=>by
    refine Ast ?_;unfold Wc;obtain⟨x,y,_⟩:=s.w;obtain⟨j,k⟩:=y.Jp;have l:=v.l1;refine c91 b t r s ⟨λg D1 o u x j y a0 a1 a2 a3=>?_,λg D1 r o u j y t a0 a1 a2 a3=>?_⟩
    · have a4:=v.Gd f a0 k;rw[Dw,Dt,AL,VS,AL];refine BX ?_;refine GW (e:=Ci) (zs:=Fs) (cs:=Fs) rfl rfl (by decide) λa5 a6 a7 a8=>?_;have a9:=a4.ext a6;have b0:=a1.ext a6;obtain⟨b1,b2,b3,b4,b5,b6,z3⟩:=a9.row;rw[Ae];refine FU b3 (vF _) (by decide) rfl ?_;have f3:∀c,c≠p→(a5.put p (.row (Ai [.bool x] (0+3) b1) 4 0 Dd true)).at c=a5.at c:=λc b7=>AQ b7;have r3:(a5.put p (.row (Ai [.bool x] (0+3) b1) 4 0 Dd true)).at p=.row (Ai [.bool x] (0+3) b1) 4 0 Dd true:=Bg _ _ _;have b8:Wd (a5.put p (.row (Ai [.bool x] (0+3) b1) 4 0 Dd true)) pW fl L o D1 u q:=b0.Sc (by omega) b3 (by decide) rfl f3;have b9:AY Ci 8 d.next.nat (a5.put p (.row (Ai [.bool x] (0+3) b1) 4 0 Dd true)) (AD b1 0) i:=b4.frame (vE _) λc _ _ c0 c1 c2 c3 c4=>f3 c λe=>by subst e;rw[b3] at c4;cases c4
      have c5:Ee CC (pW.nat+1) pW d (a5.put p (.row (Ai [.bool x] (0+3) b1) 4 0 Dd true)):=a9.fr.of (vE _) λc b7=>f3 c λe=>by subst e;omega
      generalize a5.put p (.row (Ai [.bool x] (0+3) b1) 4 0 Dd true)=h3 at r3 b8 b9 c5 ⊢;refine By rfl ?_;have c6:Cp (Ai [.bool x] (0+3) b1) 4 0=[AD b1 0,.int .i64 (.ofNat 0),.int .i64 (.ofNat 0),.bool x]:=by show[AD (Ai [.bool x] (0+3) b1) 0,AD (Ai [.bool x] (0+3) b1) 1,AD (Ai [.bool x] (0+3) b1) 2,AD (Ai [.bool x] (0+3) b1) 3]=_;rw[Am,Am,Am,Am];simp[b5,b6]
      refine Xu (c:=4) r3 (by decide) ?_;rw[c6];refine JQ r3 (by rfl) (by decide) λc6 c7=>?_;refine c7.A3 rfl ?_;have f6:∀c,c≠p→(h3.put p (.row c6 4 0 Dd true)).at c=h3.at c:=λc b7=>AQ b7;have c7:Br L (n+1) a sp=([],o,x):=by unfold Br;rw[j,if_pos y]
      have c8:Ej L (n+1) a sp=!x:=by unfold Ej;rw[j,if_pos y]
      have:=w (h3.put p (.row c6 4 0 Dd true)) D1 q u (AD b1 0) (c5.of (vE _) λc b7=>f6 c λe=>by subst e;omega);rw[c7,c8] at this;refine this (b8.Sc (by omega) r3 (by decide) rfl f6) (λz=>⟨a2 (by simpa using z),rfl⟩) ?_ a3;show AY Ci 8 d.next.nat _ (AD b1 0) (i++[]);rw[List.append_nil];exact b9.frame (vE _) λc _ _ c0 c1 c2 c3 c4=>f6 c λe=>by subst e;rw[r3] at c4;cases c4
    · have a4:=v.Gd f a0 k;rw[Dw,Dt,AL,VS,AL];refine BX ?_;refine GW (e:=Ci) (zs:=Fs) (cs:=Ic fl L o u) rfl rfl (by decide) λa5 a6 a7 a8=>?_;have a9:=a4.ext a6;have b0:=a1.ext a6;obtain⟨b1,b2,b3,b4,b5,b6,z3⟩:=a9.row;have x:=LN L (L.length+2) a sp false;rw[j] at x;have x:a≤o:=x;have y:=Go.Lx.HX (s:=(AA L).drop o) (λe=>by have:=congrArg List.length e;rw[yt,Bj] at this;have:L.length-o=0:=this;omega);rw[yt,Bj] at y;rw[Ae];refine FU b3 (vF _) (by decide) rfl ?_;have k:g.next≠p:=λe=>by have:=a4.n1;rw[←e] at this;exact Nat.lt_irrefl _ this
      have f3:∀c,c≠p→(a5.put p (.row (Ai [.bool false] (0+3) b1) 4 0 Dd true)).at c=a5.at c:=λc b7=>AQ b7;have r3:(a5.put p (.row (Ai [.bool false] (0+3) b1) 4 0 Dd true)).at p=.row (Ai [.bool false] (0+3) b1) 4 0 Dd true:=Bg _ _ _;have b8:Wd (a5.put p (.row (Ai [.bool false] (0+3) b1) 4 0 Dd true)) pW fl L _ D1 false r:=b0.Sc (by omega) b3 (by decide) rfl f3;have b9:AY Ci 8 d.next.nat (a5.put p (.row (Ai [.bool false] (0+3) b1) 4 0 Dd true)) (AD b1 0) i:=b4.frame (vE _) λc _ _ c0 c1 c2 c3 c4=>f3 c λe=>by subst e;rw[b3] at c4;cases c4
      have c5:Ee CC (pW.nat+1) pW d (a5.put p (.row (Ai [.bool false] (0+3) b1) 4 0 Dd true)):=a9.fr.of (vE _) λc b7=>f3 c λe=>by subst e;omega
      have v:=a8.frame (f3 g.next k);have x:p.nat<(a5.put p (.row (Ai [.bool false] (0+3) b1) 4 0 Dd true)).next.nat:=a9.n1;have y:d.next.nat≤(a5.put p (.row (Ai [.bool false] (0+3) b1) 4 0 Dd true)).next.nat:=c5.1;generalize a5.put p (.row (Ai [.bool false] (0+3) b1) 4 0 Dd true)=h3 at r3 b8 b9 c5 v x y ⊢;refine AR rfl ?_;rw[Ae];refine C6 r3 (by decide) ?_;have g:AD (Ai [.bool false] (0+3) b1) (0+0)=AD b1 0:=by rw[Am];simp
      rw[g];refine v.A3 rfl ?_;show oK (AE env 30 (λe k=>Ap 1 [(0,.agg [.int .i64 (vJ (Go.Lx.B7 ((AA L).drop o)).1),S (((AA L).drop o).take (Go.Lx.B7 ((AA L).drop o)).2.1),.bool u,S fl,.int .i64 (vJ (Go.Lx.El L o)),.int .i64 (vJ (Go.Lx.Ih L (o+(Go.Lx.B7 ((AA L).drop o)).2.1-1))),.bool false,.Af])] h3 e k)) _;rw[dt,Ad,SS];refine LM (lo:=d.next.nat) (ds:=Ic fl L o u) (.inr b9) rfl Yv (Nx (by omega)) y λg v k k4=>?_;have c6:v.at p=.row (Ai [.bool false] (0+3) b1) 4 0 Dd true:=by rw[k4.2 p x (.inr λc0 c1 c2 c3 c4=>by rw[r3] at c4;cases c4)];exact r3
      have a0:=b8.GD k4 f (by decide);have a7:Ee CC (pW.nat+1) pW d v:=c5.of k4.1 λc b7=>k4.2 c (vZ b7 y) (.inl b7);rw[Ae];refine FU c6 (vF _) (by decide) k.one ?_;have f5:∀c,c≠p→(v.put p (.row (Ai [g] (0+0) (Ai [.bool false] (0+3) b1)) 4 0 Dd true)).at c=v.at c:=λc b7=>AQ b7;have y:Wd (v.put p (.row (Ai [g] (0+0) (Ai [.bool false] (0+3) b1)) 4 0 Dd true)) pW fl L _ D1 false r:=a0.Sc (by omega) c6 (by decide) rfl f5;have g5:WM d (v.put p (.row (Ai [g] (0+0) (Ai [.bool false] (0+3) b1)) 4 0 Dd true)) pW p (i++[Ic fl L o u]):=by
        refine⟨a7.of (vE _) λc b7=>f5 c λe=>by subst e;omega,⟨_,false,Bg _ _ _,?_,?_,?_,?_⟩,vZ x k4.1,l⟩
        · rw[show AD (Ai [g] (0+0) (Ai [.bool false] (0+3) b1)) 0=g by rw[Am];simp];exact k.frame (vE _) λc _ _ c0 c1 c2 c3 c4=>f5 c λe=>by subst e;rw[c6] at c4;cases c4
        · rw[Am,Am];simpa using b5
        · rw[Am,Am];simpa using b6
        · rw[Am,Am];simp
      have c7:Br L (n+1) a sp=((o,u)::(Br L n (o+(Go.Lx.B7 ((AA L).drop o)).2.1) false).1,(Br L n (o+(Go.Lx.B7 ((AA L).drop o)).2.1) false).2):=by
        conv=>lhs;unfold Br
        rw[j,if_neg (λz=>z.elim (λz=>by omega) t)]
      have c8:Ej L (n+1) a sp=(!N8 ((AA L).drop o)&&Ej L n (o+(Go.Lx.B7 ((AA L).drop o)).2.1) false):=by
        conv=>lhs;unfold Ej
        rw[j,if_neg (λz=>z.elim (λz=>by omega) t)]
      rw[c7,c8] at w;refine uX b f n (by omega) a3 (by omega) (by rw[o7];simp;omega) g5 y λr D6 q6 v m l x g k d6=>?_;refine w r D6 q6 v m l x (λz=>?_) ?_ d6
      · simp only[vK,xV] at z;obtain⟨j,t⟩:=g z.2;obtain⟨w3,w4⟩:=a2 z.1;exact⟨by rw[j,w3],by rw[t,w4]⟩
      · show AY Ci 8 d.next.nat r m (i++(Ic fl L o u::FD fl L (Br L n (o+(Go.Lx.B7 ((AA L).drop o)).2.1) false).1));rw[List.append_assoc] at k;exact k
theorem c68(b:L.length≤1000000)(c:D.length≤a)(d:a≤L.length)(f:Wd h pW fl L a D sp q){g:KV}
 (i:∀j D' k l m,Ee CC (pW.nat+1) pW h j→Wd j pW fl L (Br L (L.length+2) a false).2.1 D' l k→(Ej L (L.length+2) a false=true→D'=D∧k=q)→AY Ci 8 h.next.nat j m (FD fl L (Br L (L.length+2) a false).1)→D'.length≤(Br L (L.length+2) a false).2.1→g (.agg [m,.int .i64 (.ofNat 0),.int .i64 (.ofNat 0),.bool (Br L (L.length+2) a false).2.2]) j):
 W1 (.func 68) [.ptr pW 0] h g:=by
 refine w68 (n:=L.length+3) AJ (g68 ?_);unfold VN;have n:=f.n;refine BX ?_;have o:AP h (h.new MQ):=.new;have p:(h.new MQ).next.nat=h.next.nat+1:=Bd;have r:(h.new MQ).at h.next=.row (Ai [.Af,.int .i64 (.ofNat 0),.int .i64 (.ofNat 0),.bool false] 0 .e) 4 0 Dd true:=AS _ _;have s:=f.ext o;have t:WM h (h.new MQ) pW h.next []:=⟨o.Gd,⟨_,false,r,.inl ⟨by kernel_rfl,rfl⟩,by kernel_rfl,by kernel_rfl,by kernel_rfl⟩,by omega,vE _⟩;generalize h.new MQ=h1 at s t ⊢;obtain⟨u,v,_⟩:=s.w;obtain⟨w,x⟩:=v.Jp;refine s.HG (b:=false) λy g _ _ p=>?_;refine uX b n (L.length+2) (by omega) c d (vF _) (t.Gd n g x) p λj D' k l m f o r u w=>i j D' k l m f o r (by rw[List.nil_append] at u;exact u) w
end
end Go.Den
namespace Go.Den
open Go.RowKit
set_option maxRecDepth 100000
open Go.Lx (Rn AA Bi Co El Ih EI BQ)
theorem Mb:∀l:List Rn,(Go.Lx.Co l).length≤l.length
 |[]=>vE _
 |[_]=>vE _
 |x::a::r=>by
  have b:=Mb r;have c:=Mb (a::r);unfold Go.Lx.Co;simp only[l6] at c ⊢;split
  · omega
  · simp only[l6];omega
theorem It:∀(c:List UInt8)(d:Nat),(Bi d c).length≤c.length
 |[],_=>vE _
 |[_],_=>vE _
 |[_,_],_=>vE _
 |a::b::f::r,d=>by
  have g:=It r (d+3);have h:=It (b::f::r) (d+1);unfold Bi;simp only[l6] at h ⊢;split
  · split
    · simp only[l6];omega
    · simp only[l6];omega
  · simp only[l6];omega
theorem Pu(a:List UInt8):(BQ a).length≤a.length+1:=by
 have b:=Mb (Bi 0 a);have c:=It a 0;unfold BQ;split
 · rw[o7];simp only[l6,yO];omega
 · omega
theorem VC{L:List Rn}(h:L.length-1<L.length):L.getLast? =some L[L.length-1]:=by rw[List.getLast?_eq_getElem?,List.getElem?_eq_getElem h]
theorem JK{a b:Nat}{K:Int→Prop}(h:b≤a)(c:a≤1000000000)(d:K (vJ (a-b))):fI (wrap .i64 (EU (vJ a) (vJ b))) K:=by rw[RG h,C9 (by omega),BW];exact d
theorem c67{a:List UInt8}(b:a.length≤900000){c:H}{d:KV}(f:∀g h,AP c g→AY 172 3 c.next.nat g h (DM (BQ a))→d h g):W1 (.func 67) [S a] c d:=by
 refine w67 (n:=1) AJ (g67 ?_);unfold V6;refine c90 (by omega) λi j k l=>?_;have m:=Mb (Bi 0 a);have n:=It a 0;have sl:(Cm a).length≤a.length:=vY m n;rw[Rm,FL];refine DR (b:=decide ((Cm a).getLast?.map (·.1)≠some 10)) (λo p=>?_) ?_
 · rw[l.len,B6,show AN (vJ (Cm a).length) (vJ 0)=decide ((Cm a).length=0) from DB _ _];refine F7 (λq=>?_) (λq=>?_)
   · have q:=of_decide_eq_false q;have r:(Cm a).length-1<(Cm a).length:=by omega
     rw[l.len,B6];refine JK (by omega) (by omega) ?_;refine Ld l.OA r ?_;rw[show AN (vJ (Cm a)[(Cm a).length-1].1.toNat) (vJ 10)=decide ((Cm a)[(Cm a).length-1].1=10) from H4 _ 10 (by decide),FL];rw[VC r] at p;have e:decide (Option.map (λx=>x.1) (some (Cm a)[(Cm a).length-1])≠some 10)=!decide ((Cm a)[(Cm a).length-1].1=10):=by simp
     rw[e] at p;exact p
   · have q:=of_decide_eq_true q;have:Cm a=[]:=List.eq_nil_of_length_eq_zero q;rw[this] at p;exact p
 have s:BQ a=if a≠[]∧(Cm a).getLast?.map (·.1)≠some 10 then Cm a++[(10,a.length,a.length)] else Cm a:=rfl
 refine Bp (λq=>?_) (λq=>?_)
 · simp only[vK,xV,decide_eq_false_iff_not,decide_eq_true_eq] at q;rw[if_pos ⟨q.1,q.2⟩] at s;rw[V1,Ad];refine ie l (by rw[B6];omega) k.1 λt u v k2=>?_;have eb:DM (Cm a)++[[.int .u8 (vJ 10),.int .i64 (vJ a.length),.int .i64 (vJ a.length)]]=DM (BQ a):=by rw[s,Ut];rfl
   rw[eb] at v;exact f u t (k.kp (vE _) k2) v
 · rw[if_neg (λz=>by rw[decide_eq_true z.2,decide_eq_false z.1] at q;cases q)] at s;rw[←s] at l;exact f i j k l
end Go.Den
