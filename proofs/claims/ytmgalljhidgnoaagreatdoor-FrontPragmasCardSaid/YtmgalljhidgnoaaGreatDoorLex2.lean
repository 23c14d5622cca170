/-
 Proof.
-/
import Derived.Test.YtmgalljhidgnoaaGreatDoorVls
open Int renaming ofNat → vJ
open Bool renaming rec → wg
open Nat renaming add → vN, mul → vO, ble → vU, beq → vS, ble_eq_true_of_le → wY, beq_refl → wZ, mul_le_mul_right → xb, succ_mul → wK, not_lt_zero → vH, le_refl → vE, zero_le → vF, zero_add → wJ, le_trans → vY, lt_of_lt_of_le → vZ, zero_lt_succ → vI
open List renaming ext_getElem → yg, getElem_map → ye, getElem_range → yh, getD_eq_getElem?_getD → vM, getElem?_eq_getElem → wq, length_append → o7, length_singleton → vj, getElem_append_left → yj, getElem_append_right → yl, getElem_cons_zero → vz, take_succ_eq_append_getElem → vA, length_take → ym, getElem_mem → wu, take_length → xu
namespace Go.Den
open Go.RowKit
set_option maxRecDepth 100000
theorem Cr(a b:Nat):Ba (vJ a) (vJ b)=decide (a<b):=by rw[Ge];exact decide_eq_decide.2 Int.ofNat_lt
theorem Gc(a b:Nat):CJ (vJ a) (vJ b)=decide (a≤b):=by rw[Gl];exact decide_eq_decide.2 Int.ofNat_le
theorem DB(a b:Nat):AN (vJ a) (vJ b)=decide (a=b):=by rw[Fi];exact decide_eq_decide.2 ⟨λe=>vJ.inj e,λe=>by rw[e]⟩
theorem TN(a b:UInt8):AN (vJ a.toNat) (vJ b.toNat)=decide (a=b):=by rw[DB];exact decide_eq_decide.2 ⟨λe=>UInt8.toNat_inj.1 e,λe=>by rw[e]⟩
theorem RG{a b:Nat}(h:b≤a):EU (vJ a) (vJ b)=vJ (a-b):=by rw[YH];exact(Int.ofNat_sub h).symm
theorem Ep(a b:Nat):AW (vJ a) (vJ b)=vJ (a+b):=by rw[Tz];rfl
def E5(sz o:Nat)(t:Tm)(a:List (List U)):Prop:=∀b (hi:b<a.length),a[b].length=sz∧∀j (c:j<a[b].length),AD t (o+b*sz+j)=a[b][j]
def KE(h:H)(q:P)(c:Nat→U)(m:Nat):Prop:=(∃t z e w,h.at q=.row t m z e w∧c=AD t)∨h.at q=.ext c m
theorem KE.frame{h h':H}{q:P}{c:Nat→U}{m:Nat}(f:KE h q c m)(e:h'.at q=h.at q):KE h' q c m:=by unfold KE;rw[e];exact f
def Dl(a:H)(q:P)(o:Nat)(cs:List U):Prop:=∃c b,KE a q c b∧o+cs.length≤b∧∀j (d:j<cs.length),c (o+j)=cs[j]
theorem Dl.row{a:H}{q:P}{o:Nat}{cs:List U}(t:Tm)(b z:Nat)(e:TypeId)(w:Bool)(c:a.at q=.row t b z e w)(d:o+cs.length≤b)(f:∀j (g:j<cs.length),AD t (o+j)=cs[j]):Dl a q o cs:=⟨AD t,b,.inl ⟨t,z,e,w,c,rfl⟩,d,f⟩
def KN(sz o:Nat)(a:Nat→U)(b:List (List U)):Prop:=∀c (hi:c<b.length),b[c].length=sz∧∀j (d:j<b[c].length),a (o+c*sz+j)=b[c][j]
def Rd(sz:Nat)(h:H)(v:U)(L:List (List U)):Prop:=∃q o c m b,v=.slice q o L.length sz b∧q.nat<h.next.nat∧KE h q c m∧o+L.length*sz≤m∧KN sz o c L
theorem Rd.row{sz:Nat}{a:H}{v:U}{L:List (List U)}(q:P)(o:Nat)(t:Tm)(c z:Nat)(e:TypeId)(w b:Bool)(h0:v=.slice q o L.length sz b)(d:q.nat<a.next.nat)(f:a.at q=.row t c z e w)(g:o+L.length*sz≤c)(h:E5 sz o t L):Rd sz a v L:=⟨q,o,AD t,c,b,h0,d,.inl ⟨t,z,e,w,f,rfl⟩,g,h⟩
def AY(e:TypeId)(sz lo:Nat)(h:H)(v:U)(L:List (List U)):Prop:=(v=.Af∧L=[])∨∃q t m z w,v=.slice q 0 L.length sz false∧lo≤q.nat∧q.nat<h.next.nat∧h.at q=.row t m z e w∧L.length*sz≤m∧z≤L.length*sz∧E5 sz 0 t L
theorem AY.rd{e:TypeId}{sz lo:Nat}{a:H}{v:U}{b:List (List U)}(c:AY e sz lo a v b)(d:b≠[]):Rd sz a v b:=by
 rcases c with⟨_,rfl⟩|⟨q,t,f,z,g,rfl,_,h,i,j,_,k⟩
 · exact absurd rfl d
 · exact .row q 0 t f z e g false rfl h i (by omega) k
theorem AY.one{e:TypeId}{sz lo:Nat}{a:H}{v:U}{b:List (List U)}(c:AY e sz lo a v b):v.one=true:=by rcases c with⟨rfl,_⟩|⟨_,_,_,_,_,rfl,_⟩<;>rfl
theorem AY.len{e:TypeId}{sz lo:Nat}{a:H}{v:U}{b:List (List U)}(c:AY e sz lo a v b){K:Nat→Prop}:Bz v K=K b.length:=by rcases c with⟨rfl,rfl⟩|⟨_,_,_,_,_,rfl,_⟩<;>rfl
theorem Rd.len{sz:Nat}{a:H}{v:U}{b:List (List U)}(c:Rd sz a v b){K:Nat→Prop}:Bz v K=K b.length:=by obtain⟨_,_,_,_,_,rfl,_⟩:=c;rfl
theorem Rd.frame{sz:Nat}{h h':H}{v:U}{a:List (List U)}(d:Rd sz h v a)(f:h.next.nat≤h'.next.nat)(g:∀c,c.nat<h.next.nat→(∀o n z b,v=.slice c o n z b→h'.at c=h.at c)):Rd sz h' v a:=by obtain⟨q,o,c,i,b,rfl,j,k,l⟩:=d;exact⟨q,o,c,i,b,rfl,by omega,k.frame (g q j _ _ _ _ rfl),l⟩
theorem N2{sz a:Nat}{q:P}{o n:Nat}{b:Bool}{K:U→Prop}(hi:a<n)(c:K (.ptr q (o+a*sz))):A7 sz a (.slice q o n sz b) K:=by show wg Av (fN (vN o (vO a sz)) (λd=>K (.ptr q d))) (An (vU (vN a 1) n) (vS sz sz));rw[show vU (vN a 1) n=true from wY hi,wZ];exact c
theorem Rd.elem{sz i:Nat}{a:H}{v:U}{d:List (List U)}{K:U→Prop}(f:Rd sz a v d)(hi:i<d.length)(g:∀q o,q.nat<a.next.nat→(∃o n z b,v=.slice q o n z b)→Dl a q o d[i]→K (.ptr q o)):A7 sz i v K:=by
 obtain⟨q,o,c,h,b,rfl,j,k,l,m⟩:=f;refine N2 hi (g _ _ j ⟨_,_,_,_,rfl⟩ ⟨c,h,k,?_,?_⟩)
 · rw[(m i hi).1];have:(i+1)*sz≤d.length*sz:=xb _ hi;rw[wK] at this;omega
 · exact(m i hi).2
theorem Ae{q:P}{o j:Nat}{K:U→Prop}:Ac j (.ptr q o) K=K (.ptr q (o+j)):=rfl
theorem Bbx{a:H}{b:P}{c:Nat→U}{n o:Nat}{K:U→Prop}(d:a.at b=.ext c n)(f:o<n)(g:K (c o)):Go.Den.Z (.ptr b o) a K:=by show a.EP b o Av K;unfold Hp.EP;rw[d];show NC o Av K c n;unfold NC;rw[show vU (vN o 1) n=true from wY f];show BB (c o) K;rw[BI];exact g
theorem JF(c:Nat→U):∀(n o:Nat),BY c n o=(List.range n).map λi=>c (o+i)
 |0,_=>rfl
 |n+1,o=>by show c o::BY c n (vN o 1)=_;rw[JF c n,List.range_succ_eq_map,List.map_cons,List.map_map];congr 1;exact List.map_congr_left λi _=>by show c (o+1+i)=c (o+(i+1));congr 1;omega
theorem Dl.Z{h:H}{q:P}{o j:Nat}{cs:List U}{K:U→Prop}(a:Dl h q o cs)(b:j<cs.length)(d:K cs[j]):Z (.ptr q (o+j)) h K:=by
 obtain⟨c,f,g,i,k⟩:=a;rcases g with⟨t,z,e,w,g,rfl⟩|g
 · refine C6 g (by omega) ?_;rw[k j b];exact d
 · refine Bbx g (by omega) ?_;rw[k j b];exact d
theorem Dl.A3{a:H}{q:P}{o c:Nat}{cs:List U}{K:U→Prop}(b:Dl a q o cs)(d:cs.length=c)(g:K (.agg cs)):A3 c (.ptr q o) a K:=by
 obtain⟨f,h,i,j,k⟩:=b;have m:(List.range c).map (λn=>f (o+n))=cs:=by
  apply yg
  · simp[d]
  · intro n i j;simp only[ye,yh];exact k n j
 rcases i with⟨t,z,e,p,i,rfl⟩|i
 · refine Xu i (by omega) ?_;rw[GB,m];exact g
 · show a.ES q o c Av (λl=>K (.agg l));unfold Hp.ES;rw[i];show M3 o c Av (λl=>K (.agg l)) f h;unfold M3;rw[show vU (vN o c) h=true from wY (by show o+c≤h;omega),JF,m];exact g
theorem Dl.frame{h h':H}{q:P}{o:Nat}{cs:List U}(a:Dl h q o cs)(b:h'.at q=h.at q):Dl h' q o cs:=by obtain⟨c,d,f,g⟩:=a;exact⟨c,d,f.frame b,g⟩
theorem Rd.T5{sz b j:Nat}{c:H}{v:U}{d:List (List U)}{K:U→Prop}(f:Rd sz c v d)(hi:b<d.length)(g:j<d[b].length)(h:K d[b][j]):A7 sz b v λa=>Ac j a λa=>Go.Den.Z a c K:=
 f.elem hi λq o _ _ i=>by rw[Ae];exact i.Z g h
theorem Rd.all{sz b:Nat}{c:H}{v:U}{d:List (List U)}{K:U→Prop}(f:Rd sz c v d)(hi:b<d.length)(g:d[b].length=sz)(h:K (.agg d[b])):A7 sz b v λa=>Go.Den.A3 sz a c K:=
 f.elem hi λq o _ _ i=>i.A3 g h
theorem PR(a:List U)(t:Tm):Cp (Ai a 0 t) a.length 0=a:=by
 rw[GB];apply yg
 · simp
 · intro b c d;simp only[ye,yh];rw[Am,if_pos (by omega),vM,wq (by omega)];simp
theorem Lv{a:H}{sz:Nat}{b:List U}{t:Tm}{e:TypeId}(c:b.length=sz):BH (a.new (.row (Ai b 0 t) sz 0 e true)) sz (.slice a.next 0 1 sz true)=some (1,b):=by
 show(wg none (Option.rec none (λcs=>some (1,cs)) ((a.new (.row (Ai b 0 t) sz 0 e true)).read a.next 0 (vO 1 sz))) (vS sz sz):Option (Nat×List U))=_;rw[wZ];have d:(a.new (.row (Ai b 0 t) sz 0 e true)).read a.next 0 (vO 1 sz)=some b:=by
  show Hp.ES _ _ _ _ _ _=_;unfold Hp.ES;rw[AS];show GJ 0 (vO 1 sz) none some (Ai b 0 t) sz=_;unfold GJ;have:vO 1 sz=b.length:=by show 1*sz=_;omega
  rw[this,PR,show vU (vN 0 b.length) sz=true from wY (by show 0+b.length≤sz;omega)]
 rw[d]
theorem E5.nil{sz o:Nat}{t:Tm}:E5 sz o t []:=λi hi=>absurd hi (vH _)
theorem E5.app{sz:Nat}{t:Tm}{a:List (List U)}{b:List U}(c:E5 sz 0 t a)(d:b.length=sz):E5 sz 0 (Ai b (a.length*sz) t) (a++[b]):=by
 intro f hi;rw[o7,vj] at hi;by_cases e:f<a.length
 · rw[yj e];refine⟨(c f e).1,λj g=>?_⟩;have:(f+1)*sz≤a.length*sz:=xb _ e;rw[wK] at this;have h:j<sz:=by rw[←(c f e).1];exact g
   rw[Am,if_neg (by omega)];exact(c f e).2 j g
 · have i:f=a.length:=by omega
   subst i;rw[yl (vE _)];simp only[Nat.sub_self,vz];refine⟨d,λj g=>?_⟩;rw[Am,if_pos (by omega),vM,show 0+a.length*sz+j-a.length*sz=j by omega,wq g];rfl
theorem Avi{e:TypeId}{sz lo:Nat}{a:TI}{b:H}{v x:U}{c:List (List U)}{d:List U}(f:AY e sz lo b v c)(g:BH b sz x=some (1,d))(h:d.length=sz)(i:a.size=sz)(j:Bl a (c.length+1)=true)(k:lo≤b.next.nat):
 ∃l m,BK (some false) v x b e a=some (l,m)∧AY e sz lo m l (c++[d])∧b.next.nat≤m.next.nat∧∀r,r.nat<b.next.nat→(∀o n z s,v≠.slice r o n z s)→m.at r=b.at r:=by
 have u:C7 v=c.length:=by rcases f with⟨rfl,rfl⟩|⟨_,_,_,_,_,rfl,_⟩<;>rfl
 have w:Da v=true:=by rcases f with⟨rfl,rfl⟩|⟨_,_,_,_,_,rfl,_⟩<;>rfl
 have y:BK (some false) v x b e a=Dx e sz v 1 d b:=by show(Option.rec none (λp=>wg none (wg (Dx e a.size v p.1 p.2 b) (some (v,b)) (vS p.1 0)) (An (Da v) (Bl a (vN (C7 v) p.1)))) (BH b a.size x):Option (U×H))=_;rw[i,g];show(wg none (Dx e sz v 1 d b) (An (Da v) (Bl a (vN (C7 v) 1))):Option (U×H))=_;rw[u,w,show Bl a (vN c.length 1)=true from j];rfl
 rw[y];rcases f with⟨rfl,rfl⟩|⟨q,t,s,z,g,rfl,i,a,j,u,w,y⟩
 · refine⟨.slice b.next 0 1 sz false,b.new (.row (Ai d 0 .e) (vO 1 sz) 0 e false),rfl,.inr ⟨b.next,Ai d 0 .e,vO 1 sz,0,false,rfl,k,by rw[Bd];omega,AS _ _,vE _,vF _,?_⟩,by rw[Bd];omega,λr a _=>CY a⟩;have:=E5.app (t:=.e) (E5.nil (sz:=sz) (o:=0)) h;rwa [show([]:List (List U)).length*sz=0 by simp] at this
 · have f:Dx e sz (.slice q 0 c.length sz false) 1 d b=(wg none (JU e q 0 c.length 1 sz d b (CG (b.at q))) (vS sz sz):Option (U×H)):=rfl;rw[f,wZ,j];show∃l m,(wg none (some (.slice b.next 0 (vN c.length 1) sz false,(b.put q .dead).new (.row (Ai d (vN 0 (vO c.length sz)) t) (vN 0 (vO (vN c.length 1) sz)) z e false)))
    (An (An (vS e e) (vS 0 0)) (An (vU (vN 0 (vO c.length sz)) s) (vU z (vN 0 (vO c.length sz))))):Option (U×H))=some (l,m)∧_
   have g:vN 0 (vO c.length sz)=c.length*sz:=wJ _;rw[g,wZ,wY u,wY w];refine⟨_,_,rfl,.inr ⟨b.next,_,_,z,false,?_,k,?_,AS (b.put q .dead) _,?_,?_,y.app h⟩,?_,λr a i=>?_⟩
   · rw[o7];rfl
   · show b.next.nat<(P.succ b.next).nat;rw[P.Ce];omega
   · rw[o7];show(c.length+1)*sz≤0+(c.length+1)*sz;omega
   · rw[o7,Nat.add_mul];omega
   · show b.next.nat≤(P.succ b.next).nat;rw[P.Ce];omega
   · have f:r≠q:=λj=>i _ _ _ _ (by rw[j]);rw[CY (show r.nat<(b.put q .dead).next.nat from a),AQ f]
theorem AY.frame{e:TypeId}{sz lo:Nat}{h h':H}{v:U}{a:List (List U)}(b:AY e sz lo h v a)(d:h.next.nat≤h'.next.nat)(f:∀c,c.nat<h.next.nat→lo≤c.nat→(∀t g z i,h.at c=.row t g z e i→h'.at c=h.at c)):AY e sz lo h' v a:=by
 rcases b with⟨rfl,rfl⟩|⟨q,t,g,z,i,rfl,j,k,l,m⟩
 · exact .inl ⟨rfl,rfl⟩
 · exact .inr ⟨q,t,g,z,i,rfl,j,by omega,by rw[f q k j _ _ _ _ l];exact l,m⟩
def Kp(e:TypeId)(lo:Nat)(a b:H):Prop:=a.next.nat≤b.next.nat∧∀c,c.nat<a.next.nat→(c.nat<lo∨∃t d z f g,a.at c=.row t d z f g∧f≠e)→b.at c=a.at c
theorem Kp.new{e:TypeId}{lo:Nat}{a:H}{o:Ob FT}:Kp e lo a (a.new o):=⟨by rw[Bd];omega,λ_ b _=>CY b⟩
theorem Kp.trans{e:TypeId}{lo:Nat}{h d f:H}(a:Kp e lo h d)(b:Kp e lo d f):Kp e lo h f:=by refine⟨vY a.1 b.1,λc g i=>?_⟩;have j:=a.2 c g i;rw[b.2 c (vZ g a.1) (by rw[j];exact i),j]
def AP(h h':H):Prop:=h.next.nat≤h'.next.nat∧∀c,c.nat<h.next.nat→h'.at c=h.at c
theorem AP.refl{h:H}:AP h h:=⟨vE _,λ_ _=>rfl⟩
theorem AP.trans{h d f:H}(a:AP h d)(b:AP d f):AP h f:=⟨vY a.1 b.1,λc g=>by rw[b.2 c (vZ g a.1),a.2 c g]⟩
theorem AP.new{a:H}{o:Ob FT}:AP a (a.new o):=⟨by rw[Bd];omega,λ_ b=>CY b⟩
theorem AP.kp{e:TypeId}{lo:Nat}{c h d:H}(a:AP c h)(f:c.next.nat≤lo)(b:Kp e lo h d):AP c d:=
 ⟨vY a.1 b.1,λg i=>by rw[b.2 g (vZ i a.1) (.inl (by omega)),a.2 g i]⟩
theorem Rd.ext{sz:Nat}{h h':H}{v:U}{L:List (List U)}(a:Rd sz h v L)(b:AP h h'):Rd sz h' v L:=a.frame b.1 λc d _ _ _ _ _=>b.2 c d
theorem AY.ext{e:TypeId}{sz lo:Nat}{h h':H}{v:U}{L:List (List U)}(a:AY e sz lo h v L)(b:AP h h'):AY e sz lo h' v L:=a.frame b.1 λc d _ _ _ _ _ _=>b.2 c d
theorem AY.kp{e a:TypeId}{sz lo b:Nat}{h c:H}{v:U}{d:List (List U)}(f:AY e sz lo h v d)(g:Kp a b h c)(i:e≠a):AY e sz lo c v d:=f.frame g.1 λj k _ t l z m n=>g.2 j k (.inr ⟨t,l,z,e,m,n,i⟩)
theorem Axj{e:TypeId}{sz lo:Nat}{b:TI}{c:H}{v x:U}{d:List (List U)}{f:List U}(g:AY e sz lo c v d)(h:BH c sz x=some (1,f))(i:f.length=sz)(j:b.size=sz)(k:Bl b (d.length+1)=true)(l:lo≤c.next.nat):
 ∃m r,BK (some false) v x c e b=some (m,r)∧AY e sz lo r m (d++[f])∧Kp e lo c r:=by
 obtain⟨m,r,a,s,u,w⟩:=Avi g h i j k l;refine⟨m,r,a,s,u,λp y b=>w p y λo n z c d=>?_⟩;rcases g with⟨rfl,_⟩|⟨q,t,f,h,i,rfl,j,k,l,_⟩
 · cases d
 · cases d;rcases b with b|⟨m,r,s,u,c,w,y⟩
   · omega
   · rw[l] at w;cases w;exact y rfl
theorem NG{e:TypeId}{sz lo:Nat}{b:TI}{c:H}{v:U}{d:List (List U)}{ds:List U}{t:Tm}(f:AY e sz lo c v d)(g:ds.length=sz)(h:b.size=sz)(i:Bl b (d.length+1)=true)(j:lo≤c.next.nat){k:KV}(l:∀m n,AY e sz lo n m (d++[ds])→Kp e lo c n→k m n):
 oK (BK (some false) v (.slice c.next 0 1 sz true) (c.new (.row (Ai ds 0 t) sz 0 e true)) e b) k:=by
 obtain⟨m,n,a,o,p⟩:=Axj (f.ext AP.new) (Lv g) g h i (vY j (by rw[Bd];omega));rw[a,Ad];exact l _ _ o (Kp.new.trans p)
end Go.Den
noncomputable section
namespace Go.Den
open Go.RowKit
set_option maxRecDepth 100000
def DS(t:TypeId):TI:=Option.rec ei8 (λt=>t) (env.ty t)
theorem G1{a:TI}{n:Nat}(b:An (vS (len a.zero) a.size) (vU 1 a.size)=true)(c:vU a.bytes 128=true)(d:n≤1099511627776):Bl a n=true:=by have c:=Nat.le_of_ble_eq_true c;have e:Bl a n=An (An (vS (len a.zero) a.size) (vU 1 a.size)) (An (vU n 1099511627776) (vU (vO n a.bytes) 140737488355328)):=rfl;have f:n*a.bytes≤1099511627776*128:=Nat.mul_le_mul d c;rw[e,b,wY d,wY (show vO n a.bytes≤140737488355328 from f)];rfl
def Z69:Tm:=Ai [.int .u8 (.ofNat 0),.int .i64 (.ofNat 0),.int .i64 (.ofNat 0)] 0 .e
theorem Ath(a b c:U)(d:H):AE env 68 (λe f=>Ap 1 [(0,.agg [a,b,c])] d e f)=some (.slice d.next 0 1 3 true,d.new (.row (Ai [a,b,c] 0 Z69) 3 0 71 true)):=by kernel_rfl
theorem Asq(x y:U)(h:H):AB env .append [68,68] [x,y] h=BK (some false) x y h 71 (DS 71):=by kernel_rfl
theorem Vo(a b c:Int)(h:H):AF env (env.ty 71) [(0,.int .u8 a),(1,.int .i64 b),(2,.int .i64 c)] h=some (.agg [.int .u8 a,.int .i64 b,.int .i64 c],h):=by kernel_rfl
theorem Bgy:(DS 71).size=3:=by kernel_rfl
theorem Ajd{n:Nat}(a:n≤1099511627776):Bl (DS 71) n=true:=G1 (by kernel_rfl) (by kernel_rfl) a
theorem OK{lo:Nat}{c:H}{v:U}{d:List (List U)}{a b f:U}(g:AY 71 3 lo c v d)(h:d.length+1≤1099511627776)(i:lo≤c.next.nat){j:KV}(k:∀l m,AY 71 3 lo m l (d++[[a,b,f]])→Kp 71 lo c m→j l m):
 oK (AE env 68 (λe n=>Ap 1 [(0,.agg [a,b,f])] c e n)) λx m=>oK (AB env .append [68,68] [v,x] m) j:=by
 rw[Ath,Ad,Asq];exact NG g rfl Bgy (Ajd h) i k
def rn(x:UInt8)(i j:Nat):List U:=[ub x,.int .i64 (.ofNat i),.int .i64 (.ofNat j)]
def I2:Nat→List UInt8→List (List U)
 |_,[]=>[]
 |i,x::s=>rn x i (i+1)::I2 (i+1) s
theorem Gq:∀(s:List UInt8)(i:Nat),(I2 i s).length=s.length
 |[],_=>rfl
 |x::s,i=>by show(I2 (i+1) s).length+1=s.length+1;rw[Gq s]
theorem Zv:∀(a b:List UInt8)(i:Nat),I2 i (a++b)=I2 i a++I2 (i+a.length) b
 |[],b,i=>rfl
 |x::a,b,i=>by show rn x i (i+1)::I2 (i+1) (a++b)=rn x i (i+1)::(I2 (i+1) a++_);rw[Zv a b (i+1)];congr 3;show i+1+a.length=i+(a.length+1);omega
theorem Sw:∀(a:List UInt8)(b j:Nat)(c:j<a.length)(d:j<(I2 b a).length),(I2 b a)[j]=rn a[j] (b+j) (b+j+1)
 |x::a,b,0,_,_=>rfl
 |x::a,b,j+1,c,d=>by
  have f:j<a.length:=by simpa using c
  have g:j<(I2 (b+1) a).length:=by rw[Gq];exact f
  show(I2 (b+1) a)[j]=rn a[j] _ _;rw[Sw a (b+1) j f g];congr 1<;>omega
theorem jn(s:List UInt8)(i:Nat)(hi:i<s.length):I2 0 (s.take (i+1))=I2 0 (s.take i)++[rn s[i] i (i+1)]:=by
 rw[vA hi,Zv];have:(s.take i).length=i:=by rw[ym];omega
 rw[this,wJ];rfl
theorem qE{a:H}{b:List UInt8}{c:KV}(d:∀x∈b,x≠63)(f:b.length≤1000000)(g:∀h i,AP a h→AY 71 3 a.next.nat h i (I2 0 b)→c i h):∀(n j:Nat){k:H}{v:U},2*(b.length-j)<n→j≤b.length→AP a k→AY 71 3 a.next.nat k v (I2 0 (b.take j))→(PT W1 c n).a1 b.length (enc b) v (vJ j) k
 |0,_,_,_,l,_,_,_=>absurd l (vH _)
 |n+1,j,k,v,l,hi,m,o=>by
  refine mY ?_;unfold RN;rw[Cr];refine Bp (λe=>?_) (λe=>?_)
  · have e:j<b.length:=of_decide_eq_true e;have p:b[j]≠63:=d _ (wu e);obtain⟨q,rfl⟩:∃q,n=q+1:=⟨n-1,by omega⟩;rw[Ep,C9 (by omega),BW];refine DR (b:=false) (λr s=>?_) ?_
    · rw[Cu];refine Ev e ?_;rw[show AN (vJ b[j].toNat) (vJ 63)=decide (b[j]=63) from TN b[j] 63,decide_eq_false p];exact s
    rw[Bool.and_false];refine Dm (λe=>nomatch e) (λ_=>?_);refine AR rfl ?_;refine sj ?_;unfold SI;rw[Cu];refine Ev e ?_;rw[Ep,C9 (by omega),BW,Vo,Ad];refine OK o (by rw[Gq,ym];omega) m.1 λi h t s=>?_;rw[BW];refine qE d f g q (j+1) (by omega) e (m.kp (vE _) s) ?_;rw[jn b j e];exact t
  · have e:j=b.length:=by have:=of_decide_eq_false e;omega
    subst e;rw[xu] at o;exact g _ _ m o
theorem c23{a:List UInt8}{b:H}{c:KV}(d:∀x∈a,x≠63)(f:a.length≤1000000)(g:∀h i,AP b h→AY 71 3 b.next.nat h i (I2 0 a)→c i h):W1 (.func 23) [S a] b c:=by refine w23 (n:=2*a.length+2) AJ (g23 ?_);unfold Sr;exact qE d f g _ 0 (by omega) (vF _) AP.refl (.inl ⟨rfl,rfl⟩)
def db(a:List (List U))(b:List UInt8):Prop:=a.length=b.length∧∀c (hi:c<b.length) (d:c<a.length),∃f t:Nat,f≤1000001∧t≤1000001∧a[c]=rn b[c] f t
theorem qW{a:H}{b:List (List U)}{c:List UInt8}{d:U}{g:KV}(h:db b c)(i:∀x∈c,x≠92)(j:c.length≤1000000)(k:Rd 3 a d b)(l:∀m o,AP a m→AY 71 3 a.next.nat m o b→g o m):∀(n p:Nat){q:H}{v:U},2*(c.length-p)<n→p≤c.length→AP a q→AY 71 3 a.next.nat q v (b.take p)→(PN W1 g n).a1 d v (vJ p) q
 |0,_,_,_,r,_,_,_=>absurd r (vH _)
 |n+1,p,q,v,r,hi,s,u=>by
  refine eh ?_;unfold OF;have w:=k.ext s;rw[w.len,h.1,Cr];refine Bp (λe=>?_) (λe=>?_)
  · have e:p<c.length:=of_decide_eq_true e;have y:p<b.length:=by rw[h.1];exact e
    have a:c[p]≠92:=i _ (wu e);obtain⟨d,rfl⟩:∃d,n=d+1:=⟨n-1,by omega⟩;obtain⟨f,t,_,_,g⟩:=h.2 p e y;rw[Cu];refine w.T5 (j:=0) y (by rw[g];exact vI _) ?_;simp only[g,rn,vz];unfold ub;rw[AG];refine DR (b:=decide (p+1<c.length)) (λq r=>?_) ?_
    · rw[Ep,C9 (by omega),BW,w.len,h.1,Cr];exact r
    rw[show AN (vJ c[p].toNat) (vJ 92)=decide (c[p]=92) from TN c[p] 92,decide_eq_false a];refine Dm (λe=>nomatch e) (λ_=>?_);refine AR rfl ?_;rw[Cu];refine w.all y (by rw[g];rfl) ?_;rw[g];refine OK u (by rw[ym];omega) s.1 λo m q r=>?_;refine cq ?_;unfold OJ;rw[Ep,C9 (by omega),BW];refine qW h i j k l d (p+1) (by omega) e (s.kp (vE _) r) ?_;rw[vA y,g];exact q
  · have e:p=b.length:=by have:=of_decide_eq_false e;have:=h.1;omega
    subst e;rw[xu] at u;exact l _ _ s u
theorem c22{a:List (List U)}{b:List UInt8}{c:U}{d:H}{f:KV}(g:db a b)(h:∀x∈b,x≠92)(i:b.length≤1000000)(j:Rd 3 d c a)(k:∀l m,AP d l→AY 71 3 d.next.nat l m a→f m l):W1 (.func 22) [c] d f:=by refine w22 (n:=2*b.length+2) AJ (g22 ?_);unfold Tn;exact qW g h i j k _ 0 (by omega) (vF _) AP.refl (.inl ⟨rfl,rfl⟩)
theorem gj(a:List UInt8)(b:a.length≤1000000):db (I2 0 a) a:=
 ⟨Gq a 0,λc hi d=>⟨c,c+1,by omega,by omega,by rw[Sw a 0 c hi d,wJ]⟩⟩
theorem db.snoc{L:List (List U)}{a:List UInt8}{x:UInt8}{f t:Nat}(b:db L a)(c:f≤1000001)(d:t≤1000001):db (L++[rn x f t]) (a++[x]):=by
 refine⟨by simp[b.1],λg hi h=>?_⟩;by_cases e:g<a.length
 · have i:g<L.length:=by rw[b.1];exact e
   rw[yj e,yj i];exact b.2 g e i
 · have j:g=a.length:=by rw[o7,vj] at hi;omega
   subst j;refine⟨f,t,c,d,?_⟩;rw[yl (by rw[b.1];exact vE _),yl (vE _)];simp
def Rs(h:H)(v:U)(B:List UInt8):Prop:=∃L,Rd 3 h v L∧db L B
theorem Rs.ext{h h':H}{v:U}{B:List UInt8}(c:Rs h v B)(d:AP h h'):Rs h' v B:=by obtain⟨L,a,b⟩:=c;exact⟨L,a.ext d,b⟩
theorem uG{a:List UInt8}{b:H}{c:KV}(h0:a≠[])(d:∀x∈a,x≠63∧x≠92∧x≠10)(f:a.length≤1000000)(g:∀h i,AP b h→Rs h i (a++[10])→c i h):W1 (.func 17) [S a] b c:=by
 have j:0<a.length:=List.length_pos_iff.2 h0;have k:I2 0 a≠[]:=λe=>by have:=Gq a 0;rw[e] at this;simp at this;omega
 refine w17 (n:=1) AJ (PY ?_);unfold Tv;refine c23 (λx l=>(d x l).1) f λm n o p=>?_;refine c22 (gj a f) (λx l=>(d x l).2.1) f (p.rd k) λq r s t=>?_;have u:AY 71 3 m.next.nat q r (I2 0 a):=t;have v:=u.rd k;rw[Cr,decide_eq_true j];refine DR (b:=true) (λw y=>?_) ?_
 · rw[u.len,Gq];refine G8 (b:=true) (λb c=>?_) (by rw[Bool.or_true];exact y);rw[u.len,Gq,RG j,C9 (by omega),BW,Cu];have n:a.length-1<(I2 0 a).length:=by rw[Gq];omega
   have l:=Sw a 0 (a.length-1) (by omega) n;refine v.T5 (j:=0) n (by rw[l];exact vI _) ?_;simp only[l,rn,vz];unfold ub;rw[AG,show AN (vJ a[a.length-1].toNat) (vJ 10)=decide (a[a.length-1]=10) from TN _ 10,decide_eq_false (d _ (wu _)).2.2];exact c
 refine By rfl ?_;rw[Vo,Ad];refine OK u (by rw[Gq];omega) s.1 λi h p y=>?_;refine g _ _ (o.trans (s.kp (vE _) y)) ⟨_,p.rd (by simp),?_⟩;exact(gj a f).snoc (x:=10) (f:=a.length) (t:=a.length) (by omega) (by omega)
def bt(B:List UInt8)(i:Nat):UInt8:=B.getD i 0
theorem DF{B:List UInt8}{i:Nat}(h:i<B.length):bt B i=B[i]:=by unfold bt;rw[vM,wq h];rfl
theorem GL{B:List UInt8}{i:Nat}(h:B.length≤i):bt B i=0:=by unfold bt;rw[vM,List.getElem?_eq_none h];rfl
theorem Rs.Cs{b:H}{v:U}{c:List UInt8}(d:Rs b v c){g:Nat}(hi:g<c.length){K:U→Prop}(h:K (ub c[g])):A7 3 g v λa=>Ac 0 a λa=>Z a b K:=by
 obtain⟨i,r,j⟩:=d;have k:g<i.length:=by rw[j.1];exact hi
 obtain⟨f,t,_,_,l⟩:=j.2 g hi k;refine r.T5 (j:=0) k (by rw[l];exact vI _) ?_;simp only[l,rn,vz];exact h
theorem Rs.len{a:H}{v:U}{b:List UInt8}(c:Rs a v b){K:Nat→Prop}:Bz v K=K b.length:=by obtain⟨d,r,f⟩:=c;rw[r.len,f.1]
theorem RK{a:H}{v:U}{b:List UInt8}{i:Nat}{c:KV}(d:Rs a v b)(f:c (ub (bt b i)) a):W1 (.func 43) [v,.int .i64 (vJ i)] a c:=by
 refine w43 (n:=1) AJ (g43 ?_);unfold Vq;refine G8 (b:=decide (b.length≤i)) (λg h=>?_) ?_
 · rw[d.len,Gc];exact h
 rw[show Ba (vJ i) (vJ 0)=false by rw[Cr];simp,Bool.false_or];refine Bp (λe=>?_) (λe=>?_)
 · have e:=of_decide_eq_true e;rw[GL e] at f;exact f
 · have e:=of_decide_eq_false e;rw[Cu];refine d.Cs (by omega) ?_;unfold ub;rw[AG];rw[DF (by omega)] at f;exact f
def BZ(x:UInt8):Bool:=(decide (97≤x.toNat)&&decide (x.toNat≤122))||(decide (65≤x.toNat)&&decide (x.toNat≤90))||decide (x.toNat=95)
def isDigit(x:UInt8):Bool:=decide (48≤x.toNat)&&decide (x.toNat≤57)
def D8(x:UInt8):Bool:=decide (x.toNat=32)||decide (x.toNat=9)||(decide (11≤x.toNat)&&decide (x.toNat≤13))
theorem ki(x:UInt8):Pure PP G h0 46 [ub x] (.bool (BZ x)):=by
 refine w46 (n:=1) AJ (g46 ?_);unfold XC;refine IT ?_;refine G8 (b:=(decide (65≤x.toNat)&&decide (x.toNat≤90))) (λa b=>?_) ?_
 · refine IT ?_;rw[Gc,Gc];exact b
 refine Tw ?_;rw[Gc,Gc,DB];rfl
theorem c47(x:UInt8):Pure PP G h0 47 [ub x] (.bool (isDigit x)):=by refine w47 (n:=1) AJ (g47 ?_);unfold WV;refine IT ?_;rw[Gc,Gc];rfl
theorem c18(x:UInt8):Pure PP G h0 18 [ub x] (.bool (D8 x)):=by
 refine w18 (n:=1) AJ (g18 ?_);unfold WL;refine Tw ?_;refine G8 (b:=(decide (11≤x.toNat)&&decide (x.toNat≤13))) (λa b=>?_) ?_
 · refine IT ?_;rw[Gc,Gc];exact b
 rw[DB,DB];rfl
end Go.Den
