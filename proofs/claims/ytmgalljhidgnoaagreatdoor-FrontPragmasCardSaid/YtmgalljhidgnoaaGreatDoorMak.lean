/-
 Proof.
-/
import Derived.Test.YtmgalljhidgnoaaGreatDoorLex2
open Int renaming ofNat → vJ
open Nat renaming ble → vU, add → vN, ble_eq_true_of_le → wY, le_refl → vE, zero_add → wJ, succ_mul → wK, mul_le_mul_right → xb, beq → vS, mul → vO, zero_le → vF, beq_refl → wZ
open List renaming getElem_cons_zero → vz, flatten_cons → zg, getD_eq_getElem?_getD → vM, getElem?_eq_getElem → wq, length_append → o7, append_nil → vi, length_take → ym, length_drop → yt
open Bool renaming rec → wg
namespace Go.Den
open Go.RowKit
set_option maxRecDepth 100000
theorem Bx{a b:Nat}{K:Int→Prop}(c:a+b≤1000000000)(d:K (vJ (a+b))):fI (wrap .i64 (AW (vJ a) (vJ b))) K:=by rw[Ep,C9 (by omega),BW];exact d
theorem Pv(x:UInt8)(n:Nat)(a:n<256):AN (vJ x.toNat) (vJ n)=decide (x=UInt8.ofNat n):=toNat_eq x n a
theorem Alg(v:U)(h:H):D4 env h 79 9 v=N4 env 79 v h:=by kernel_rfl
theorem cvb(b:P)(o n:Nat)(h:H):J2 env 79 b o n h=(Option.rec none (λcs=>LL h (Ei cs)) (h.read b o n):Option (U×H)):=by kernel_rfl
theorem cD(h:H)(l:List UInt8):LL h (Ei (TW l))=some (S l,h):=by rw[OY];show some (strOf (l.map (·.toNat)),h)=_;rw[ia]
theorem kC{a:H}{q:P}{t:Tm}{b z n:Nat}{e:TypeId}{c:Bool}(d:a.at q=.row t b z e c)(f:n≤b):a.read q 0 n=some (Cp t n 0):=by unfold Hp.read Hp.ES;rw[d];show(GJ 0 n none some t b:Option (List U))=_;unfold GJ;rw[show vU (vN 0 n) b=true from wY (by show 0+n≤b;omega)]
theorem jF{a:H}{q:P}{t:Tm}{b z:Nat}{c:Bool}{l:List UInt8}{d:Bool}(f:a.at q=.row t b z TB c)(g:l.length≤b)(h:L6 t l):D4 env a 79 9 (.slice q 0 l.length 1 d)=some (S l,a):=by rw[Alg];show J2 env 79 q 0 l.length a=_;rw[cvb,kC f g,h.get];exact cD a l
def eb(l:List UInt8):List (List U):=l.map λx=>[ub x]
theorem Gj(l:List UInt8):(eb l).length=l.length:=by unfold eb;simp
theorem bC(l:List UInt8)(x:UInt8):eb (l++[x])=eb l++[[ub x]]:=by unfold eb;simp
theorem P4{l:List UInt8}{a:Nat}(h:a<l.length)(b:a<(eb l).length):(eb l)[a]=[ub l[a]]:=List.getElem_map (λx=>[ub x]) (h:=b)
theorem SY{lo:Nat}{a:H}{v:U}{l:List UInt8}(b:AY TB 1 lo a v (eb l)):D4 env a 79 9 v=some (S l,a):=by
 rcases b with⟨rfl,e⟩|⟨q,t,c,z,d,rfl,f,g,h,i,j,k⟩
 · have:l=[]:=by cases l with
    |nil=>rfl
    |cons x l=>exact absurd e (by unfold eb;simp)
   subst this;rw[Alg];rfl
 · rw[Gj] at i;rw[Gj];refine jF h (by omega) λm hi=>?_;have:=(k m (by rw[Gj];exact hi)).2 0 (by rw[P4 hi];exact Nat.one_pos);simp only[P4 hi,vz] at this;rw[←this];congr 1;omega
theorem UB{lo:Nat}{a:H}{v:U}{l:List UInt8}{x:UInt8}(b:AY TB 1 lo a v (eb l))(c:l.length+1≤1099511627776)(d:lo≤a.next.nat){f:KV}(g:∀h i,AY TB 1 lo i h (eb (l++[x]))→Kp TB lo a i→f h i):
 oK (AE env 79 (λe j=>Ap 1 [(0,.int .u8 (vJ x.toNat))] a e j)) λx i=>oK (AB env .append [79,79] [v,x] i) f:=by
 rw[Aof,Ad,ue];exact NG (ds:=[ub x]) b rfl (by rfl) (W4 (by rw[Gj];exact c)) d (by rw[←bC];exact g)
def Ft(e:TypeId)(lo:Nat)(a b:H):Prop:=a.next.nat≤b.next.nat∧∀c,c.nat<a.next.nat→(c.nat<lo∨∀t d z f,a.at c≠.row t d z e f)→b.at c=a.at c
theorem Ft.refl{e:TypeId}{lo:Nat}{h:H}:Ft e lo h h:=⟨vE _,λ_ _ _=>rfl⟩
theorem Ft.new{e:TypeId}{lo:Nat}{a:H}{o:Ob FT}:Ft e lo a (a.new o):=⟨by rw[Bd];omega,λ_ b _=>CY b⟩
theorem Ft.trans{e:TypeId}{lo:Nat}{h d f:H}(a:Ft e lo h d)(b:Ft e lo d f):Ft e lo h f:=by refine⟨Nat.le_trans a.1 b.1,λc g i=>?_⟩;have j:=a.2 c g i;rw[b.2 c (Nat.lt_of_lt_of_le g a.1) (by rw[j];exact i),j]
theorem AP.GD{e:TypeId}{lo:Nat}{a b:H}(x:AP a b):Ft e lo a b:=⟨x.1,λc d _=>x.2 c d⟩
theorem Ft.kp{e:TypeId}{lo:Nat}{h a:H}(x:Ft e lo h a):Kp e lo h a:=⟨x.1,λb c d=>x.2 b c (d.imp id λ⟨t,f,z,g,i,j,k⟩ l m n o p=>by rw[j] at p;cases p;exact k rfl)⟩
theorem AY.GD{e a:TypeId}{sz lo b:Nat}{c d:H}{v:U}{f:List (List U)}(g:AY e sz lo c v f)(h:Ft a b c d)(i:e≠a):AY e sz lo d v f:=g.kp h.kp i
theorem AY.sl{e:TypeId}{sz lo:Nat}{a:H}{v:U}{c:List (List U)}(d:AY e sz lo a v c):v=.Af∨∃b o n z t,v=.slice b o n z t:=by
 rcases d with⟨rfl,_⟩|⟨q,_,_,_,_,rfl,_⟩
 · exact .inl rfl
 · exact .inr ⟨_,_,_,_,_,rfl⟩
theorem Sb{sz:Nat}:∀(a:List (List U))(_:∀b∈a,b.length=sz)(c j:Nat)(hi:c<a.length)(d:j<a[c].length),a.flatten.getD (c*sz+j) .undef=a[c][j]
 |[],_,c,_,hi,_=>absurd hi (Nat.not_lt_zero _)
 |b::a,f,0,j,hi,d=>by have d:j<b.length:=d;rw[zg,Nat.zero_mul,wJ,vM,List.getElem?_append_left d,wq d];rfl
 |b::a,f,c+1,j,hi,d=>by have g:b.length=sz:=f b (by simp);have h:=Sb a (λi k=>f i (by simp[k])) c j (by simpa using hi) d;rw[zg,vM,List.getElem?_append_right (by rw[g,wK];omega),g,show(c+1)*sz+j-sz=c*sz+j by rw[wK];omega,←vM,h];rfl
theorem UJ{sz:Nat}:∀(a:List (List U))(_:∀b∈a,b.length=sz),a.flatten.length=a.length*sz
 |[],_=>by simp
 |b::a,c=>by rw[zg,o7,c b (by simp),UJ a (λd f=>c d (by simp[f])),List.length_cons,wK];omega
theorem E5.aK{sz:Nat}{t:Tm}{a b:List (List U)}(c:E5 sz 0 t a)(d:∀f∈b,f.length=sz):E5 sz 0 (Ai b.flatten (a.length*sz) t) (a++b):=by
 intro g hi;rw[o7] at hi;by_cases e:g<a.length
 · rw[List.getElem_append_left e];refine⟨(c g e).1,λj h=>?_⟩;have:(g+1)*sz≤a.length*sz:=xb _ e;rw[wK] at this;have i:j<sz:=by rw[←(c g e).1];exact h
   rw[Am,if_neg (by omega)];exact(c g e).2 j h
 · rw[List.getElem_append_right (by omega)];have k:g-a.length<b.length:=by omega
   have l:=d _ (List.getElem_mem k);refine⟨l,λj h=>?_⟩;have m:g*sz=a.length*sz+(g-a.length)*sz:=by rw[←Nat.add_mul];congr 1;omega
   have n:(g-a.length+1)*sz≤b.length*sz:=xb _ k;rw[wK] at n;rw[Am,if_pos ⟨by omega,by rw[UJ b d];omega⟩,show 0+g*sz+j-a.length*sz=(g-a.length)*sz+j by omega];exact Sb b d _ _ k h
theorem Asy{e:TypeId}{sz lo:Nat}{a:TI}{b:H}{v x:U}{c d:List (List U)}(f:AY e sz lo b v c)(g:BH b sz x=some (d.length,d.flatten))(h:∀i∈d,i.length=sz)(j:a.size=sz)(k:Bl a (c.length+d.length)=true)(l:lo≤b.next.nat):
 ∃m r,BK (some false) v x b e a=some (m,r)∧AY e sz lo r m (c++d)∧b.next.nat≤r.next.nat∧∀i,i.nat<b.next.nat→(∀o n z s,v≠.slice i o n z s)→r.at i=b.at i:=by
 have u:C7 v=c.length:=by rcases f with⟨rfl,rfl⟩|⟨_,_,_,_,_,rfl,_⟩<;>rfl
 have w:Da v=true:=by rcases f with⟨rfl,rfl⟩|⟨_,_,_,_,_,rfl,_⟩<;>rfl
 have y:BK (some false) v x b e a=(wg (Dx e sz v d.length d.flatten b) (some (v,b)) (vS d.length 0):Option (U×H)):=by show(Option.rec none (λp=>wg none (wg (Dx e a.size v p.1 p.2 b) (some (v,b)) (vS p.1 0)) (An (Da v) (Bl a (vN (C7 v) p.1)))) (BH b a.size x):Option (U×H))=_;rw[j,g];show(wg none (wg (Dx e sz v d.length d.flatten b) (some (v,b)) (vS d.length 0)) (An (Da v) (Bl a (vN (C7 v) d.length))):Option (U×H))=_;rw[u,w,show Bl a (vN c.length d.length)=true from k];rfl
 rw[y];by_cases s:d=[]
 · subst s;exact⟨v,b,rfl,by rw[vi];exact f,vE _,λ_ _ _=>rfl⟩
 have g:vS d.length 0=false:=by
  cases d with
  |nil=>exact absurd rfl s
  |cons _ _=>rfl
 rw[g];rcases f with⟨rfl,rfl⟩|⟨q,t,j,z,a,rfl,k,u,w,y,s,g⟩
 · refine⟨.slice b.next 0 d.length sz false,b.new (.row (Ai d.flatten 0 .e) (vO d.length sz) 0 e false),rfl,.inr ⟨b.next,Ai d.flatten 0 .e,vO d.length sz,0,false,rfl,l,by rw[Bd];omega,AS _ _,vE _,vF _,?_⟩,by rw[Bd];omega,λi a _=>CY a⟩;have:=E5.aK (t:=.e) (E5.nil (sz:=sz) (o:=0)) h;rwa [show([]:List (List U)).length*sz=0 by simp] at this
 · have f:Dx e sz (.slice q 0 c.length sz false) d.length d.flatten b=(wg none (JU e q 0 c.length d.length sz d.flatten b (CG (b.at q))) (vS sz sz):Option (U×H)):=rfl;show∃m r,Dx e sz (.slice q 0 c.length sz false) d.length d.flatten b=some (m,r)∧_;rw[f,wZ,w];show∃m r,(wg none (some (.slice b.next 0 (vN c.length d.length) sz false,(b.put q .dead).new (.row (Ai d.flatten (vN 0 (vO c.length sz)) t) (vN 0 (vO (vN c.length d.length) sz)) z e false)))
    (An (An (vS e e) (vS 0 0)) (An (vU (vN 0 (vO c.length sz)) j) (vU z (vN 0 (vO c.length sz))))):Option (U×H))=some (m,r)∧_
   have k:vN 0 (vO c.length sz)=c.length*sz:=wJ _;rw[k,wZ,wY y,wY s];refine⟨_,_,rfl,.inr ⟨b.next,_,_,z,false,?_,l,?_,AS (b.put q .dead) _,?_,?_,g.aK h⟩,?_,λi a u=>?_⟩
   · rw[o7];rfl
   · show b.next.nat<(P.succ b.next).nat;rw[P.Ce];omega
   · rw[o7];show(c.length+d.length)*sz≤0+(c.length+d.length)*sz;omega
   · rw[o7,Nat.add_mul];omega
   · show b.next.nat≤(P.succ b.next).nat;rw[P.Ce];omega
   · have f:i≠q:=λw=>u _ _ _ _ (by rw[w]);rw[CY (show i.nat<(b.put q .dead).next.nat from a),AQ f]
theorem AY.own{e:TypeId}{sz lo:Nat}{a:H}{v:U}{b:List (List U)}(c:AY e sz lo a v b){d:P}(f:d.nat<lo∨∀t g z w,a.at d≠.row t g z e w):∀o n z h,v≠.slice d o n z h:=λo n z h i=>by
 rcases c with⟨rfl,_⟩|⟨q,t,g,j,w,rfl,k,l,m,_⟩
 · cases i
 · cases i;rcases f with f|f
   · omega
   · exact f _ _ _ _ m
theorem Ye{e:TypeId}{sz lo:Nat}{b:TI}{c:H}{v x:U}{d M:List (List U)}(f:AY e sz lo c v d)(g:BH c sz x=some (M.length,M.flatten))(h:∀i∈M,i.length=sz)(j:b.size=sz)(k:Bl b (d.length+M.length)=true)(l:lo≤c.next.nat){m:KV}(n:∀o q,AY e sz lo q o (d++M)→Ft e lo c q→m o q):
 oK (BK (some false) v x c e b) m:=by
 obtain⟨o,q,a,r,i,s⟩:=Asy f g h j k l;rw[a,Ad];exact n _ _ r ⟨i,λp t u=>s p t (f.own u)⟩
theorem Atd{e:TypeId}{sz lo:Nat}{a:TI}{b h0:H}{q:P}{v:U}{c:List (List U)}{ds:List U}{t:Tm}(d:AY e sz lo b v c)(f:ds.length=sz)(g:a.size=sz)(h:Bl a (c.length+1)=true)(i:lo≤b.next.nat)(j:h0.new (.row (Ai ds 0 t) sz 0 e true)=b)(k:q=h0.next){l:KV}(m:∀n o,AY e sz lo o n (c++[ds])→Ft e lo b o→l n o):
 oK (BK (some false) v (.slice q 0 1 sz true) b e a) l:=by
 subst j k;refine Ye (M:=[ds]) d (by rw[Lv f];simp) (λp r=>by simp at r;rw[r];exact f) g h i m
theorem CA{l:List U}{K:Prop}(a:l≠[])(b:K):Fa (vU 1 (len l)) K:=by
 cases l with
 |nil=>exact absurd rfl a
 |cons x l=>rw[BU,show vU 1 (x::l).length=true from wY (by simp)];exact b
theorem Dl.newRow{a:H}{e:TypeId}{cs:List U}:Dl (a.new (rowOf e cs)) a.next 0 cs:=by
 refine .row (Ai cs 0 .e) cs.length 0 e true ?_ (by omega) λj b=>?_
 · rw[AS];unfold rowOf;rw[BU]
 · rw[Am,if_pos (by omega),vM,wq (by omega)];simp
theorem GW{a:H}{e:TypeId}{zs cs:List U}{b:Nat}{K:H→Prop}(c:zs.length=b)(d:cs.length=b)(f:1≤b)(g:∀h,AP a h→a.next.nat<h.next.nat→Dl h a.next 0 cs→K h):CV b (.ptr a.next 0) (.agg cs) (a.new (rowOf e zs)) K:=by
 have i:(a.new (rowOf e zs)).at a.next=.row (Ai zs 0 .e) b 0 e true:=by rw[AS];unfold rowOf;rw[BU,c]
 refine O3 i (vE _) d f (by omega) (g _ ⟨by rw[Dc,Bd];omega,λk l=>?_⟩ (by rw[Dc,Bd];omega) (.row _ b 0 e true (Bg _ _ _) (by omega) λj m=>?_))
 · rw[AQ (λn=>by subst n;omega),CY l]
 · rw[Am,if_pos (by omega),vM,wq (by omega)];simp
theorem Dl.uc{a:H}{q:P}{o j c:Nat}{cs:List U}{K:U→Prop}(b:Dl a q o cs)(d:j+c≤cs.length)(g:K (.agg ((cs.drop j).take c))):Go.Den.A3 c (.ptr q (o+j)) a K:=by obtain⟨f,h,i,k,l⟩:=b;refine Dl.A3 (cs:=(cs.drop j).take c) ⟨f,h,i,by rw[ym,yt];omega,λm hi=>?_⟩ (by rw[ym,yt];omega) g;rw[ym,yt] at hi;rw[Nat.add_assoc,l (j+m) (by omega),List.getElem_take,List.getElem_drop]
theorem Dl.ext{h h':H}{q:P}{o:Nat}{cs:List U}(a:Dl h q o cs)(b:AP h h')(c:q.nat<h.next.nat):Dl h' q o cs:=a.frame (b.2 q c)
theorem QO{v:U}{A:Prop}(h:v=.Af∨∃b o n z t,v=.slice b o n z t):BE v v A=A:=by
 rcases h with rfl|⟨b,o,n,z,t,rfl⟩
 · rfl
 · show wg Av A (An (An (P.beq b b) (vS o o)) (An (An (vS n n) (vS z z)) (No t t)))=A;rw[P.beq_refl,wZ,wZ,wZ,M2];rfl
def Gz(lo:Nat)(h:H)(b:P)(l:List UInt8):Prop:=∃t,h.at b=.row t 2 0 197 true∧b.nat<h.next.nat∧(AD t 0=.Bn∨AD t 0=.ptr b 0)∧AY TB 1 lo h (AD t 1) (eb l)∧(l=[]→AD t 1=.Af)
def sy(lo:Nat)(a:P)(b c:H):Prop:=b.next.nat≤c.next.nat∧∀d,d.nat<b.next.nat→d≠a→(d.nat<lo∨∀t f z g,b.at d≠.row t f z TB g)→c.at d=b.at d
theorem Gz.new(lo:Nat)(h:H):Gz lo (h.new Is) h.next []:=
 ⟨Ai [.Bn,.Af] 0 .e,AS _ _,by rw[Bd];omega,.inl (by kernel_rfl),.inl ⟨by kernel_rfl,rfl⟩,λ_=>by kernel_rfl⟩
theorem Gz.ext{lo:Nat}{h h':H}{b:P}{l:List UInt8}(a:Gz lo h b l)(c:AP h h'):Gz lo h' b l:=by obtain⟨t,d,f,g,i,j⟩:=a;exact⟨t,by rw[c.2 b f];exact d,by have:=c.1;omega,g,i.ext c,j⟩
theorem mj(l:List UInt8):(eb l).flatten=TW l:=by
 induction l with
 |nil=>rfl
 |cons x l a=>show[ub x]++(eb l).flatten=ub x::TW l;rw[a];rfl
theorem Ahm(l m:List UInt8):eb (l++m)=eb l++eb m:=by unfold eb;rw[List.map_append]
theorem Agd(l:List UInt8):∀a∈eb l,a.length=1:=λa b=>by obtain⟨x,_,rfl⟩:=List.mem_map.1 b;rfl
theorem UZ{e:TypeId}{sz lo:Nat}{a:TI}{b:H}{v x:U}{L:List (List U)}(c:AY e sz lo b v L)(d:BH b sz x=some (0,[]))(f:a.size=sz)(g:Bl a (L.length+0)=true):BK (some false) v x b e a=some (v,b):=by
 have h:C7 v=L.length:=by rcases c with⟨rfl,rfl⟩|⟨_,_,_,_,_,rfl,_⟩<;>rfl
 have i:Da v=true:=by rcases c with⟨rfl,rfl⟩|⟨_,_,_,_,_,rfl,_⟩<;>rfl
 show(Option.rec none (λp=>wg none (wg (Dx e a.size v p.1 p.2 b) (some (v,b)) (vS p.1 0)) (An (Da v) (Bl a (vN (C7 v) p.1)))) (BH b a.size x):Option (U×H))=_;rw[f,d];show(wg none (some (v,b)) (An (Da v) (Bl a (vN (C7 v) 0))):Option (U×H))=_;rw[h,i,show Bl a (vN L.length 0)=true from g];rfl
theorem Anz{lo:Nat}{a:H}{b:P}{l c:List UInt8}{d:KV}(f:Gz lo a b l)(g:lo≤a.next.nat)(h:l.length+c.length≤1099511627776)(i:∀v j,Gz lo j b (l++c)→sy lo b a j→d v j):W1 (.func 81) [.ptr b 0,S c] a d:=by
 obtain⟨t,k,m,h0,n,o⟩:=f;refine w81 (n:=1) AJ (g81 ?_);unfold W6;refine Akx k h0 λp q r s u w x=>?_;rw[Aj,Ad,Ii];refine C6 r (by decide) ?_;have y:p.next.nat=a.next.nat:=by rw[w]
 have j:AY TB 1 lo p (AD q 1) (eb l):=by rw[u];exact n.frame (by rw[w];exact vE _) λf a _ y n z a0 a1=>x f λa2=>by subst a2;rw[k] at a1;cases a1
 have k:b.nat<p.next.nat:=by rw[w];exact m
 rw[Bgn];have fin:∀m a3,AY TB 1 lo a3 m (eb (l++c))→(l++c=[]→m=.Af)→Ft TB lo p a3→oK (Ag (.ptr b 0) a3) λa4 a5=>Ac 1 a4 λp=>BC p m a5 λa4=>d (.tuple [.int .i64 (vJ c.length),.FC]) a4:=λm a3 p d a5=>by
  have a4:=a5.1;rw[Aj,Ad,Ii];have a4:a3.at b=.row q 2 0 197 true:=by rw[a5.2 b k (.inr λa6 a7 z a0 a1=>by rw[r] at a1;cases a1)];exact r
  refine FU a4 (vF _) (by decide) p.one ?_;have k:AD (Ai [m] 1 q) 1=m:=by rw[Am];simp
  refine i _ _ ⟨_,Bg _ _ _,by rw[Dc];omega,.inr (by rw[Am];simp[s]),?_,λe=>by rw[k];exact d e⟩ ⟨by rw[Dc];omega,λf a r a1=>?_⟩
  · rw[k];exact p.frame (vE _) λf a _ y n z a0 a1=>AQ λa2=>by subst a2;rw[a4] at a1;cases a1
  · rw[AQ r,a5.2 f (by rw[w];exact a) (a1.imp id λa1 a6 a7 z a0=>by rw[x f r];exact a1 a6 a7 z a0),x f r]
 by_cases q:c=[]
 · subst q;rw[UZ j (by rw[RR];rfl) rfl (W4 (by rw[Gj];simpa using h)),Ad];exact fin _ _ (by rw[vi];exact j) (λe=>by rw[u];exact o (by simpa using e)) .refl
 · refine Ye (M:=eb c) j (by rw[RR,Gj,mj]) (Agd c) rfl (W4 (by rw[Gj,Gj];exact h)) (by rw[w];exact g) λm a3 p a5=>?_;exact fin m a3 (by rw[Ahm];exact p) (λe=>absurd (List.append_eq_nil_iff.1 e).2 q) a5
theorem gq{lo:Nat}{a:H}{b:P}{l:List UInt8}{c:KV}(d:Gz lo a b l)(f:l.length≤9223372036854775807)(g:∀h,Ft TB lo a h→c (S l) h):W1 (.func 82) [.ptr b 0] a c:=by
 obtain⟨t,i,j,h0,k,m⟩:=d;refine w82 (n:=1) AJ (g82 ?_);unfold Ws;rw[Aj,Ad,Ii];refine C6 i (by decide) ?_;by_cases n:l=[]
 · subst n;have e:=m rfl;rw[e,Aph];rw[show(EK U.Af a:Option (U×H))=some (.Bn,a) from rfl,Ad,Aj,Ad,Ii];refine C6 i (by decide) ?_;rw[e];show oK (AB env .unsafeString [232,3] [.Bn,.int .i64 (vJ 0)] a) _;rw[Anl,show(I9 env .Bn (Bf (.int .i64 (vJ 0))) a:Option (U×H))=some (.str 0 0,a) from rfl,Ad];exact g a .refl
 · rcases k with⟨e,o⟩|⟨q,p,r,z,s,e,u,v,w,y,b,c⟩
   · exfalso;cases l with
     |nil=>exact n rfl
     |cons x l=>exact absurd o (by unfold eb;simp)
   rw[Gj] at e y b;have h:l.length=(l.length-1)+1:=by
    cases l with
    |nil=>exact absurd rfl n
    |cons _ _=>simp
   have j:L6 p l:=λd hi=>by have:=(c d (by rw[Gj];exact hi)).2 0 (by rw[P4 hi];exact Nat.one_pos);simp only[P4 hi,vz] at this;rw[←this];congr 1;omega
   have m:(EK (.slice q 0 l.length 1 false) a:Option (U×H))=some (.ptr q 0,a):=by rw[h];rfl
   rw[e,Aph,m,Ad,Aj,Ad,Ii];refine C6 i (by decide) ?_;rw[e,Oi,Anl];have o:I9 env (.ptr q 0) (Bf (.int .i64 (vJ l.length))) a=(wg (VG env q 0 l.length a (CG (a.at q))) (some (.str 0 0,a)) (vS l.length 0):Option (U×H)):=rfl;have k:vS l.length 0=false:=by rw[h];rfl
   rw[o,k,w];show oK (wg none (LL (a.put q (.row p r (vN r 1) TB s)) (Ei (Cp p l.length 0))) (An (isByte env TB) (An (vU (vN 0 l.length) r) (vU l.length (intMax .i64)))):Option (U×H)) _;rw[isB,wY (show vN 0 l.length≤r by show 0+l.length≤r;omega),wY (show l.length≤intMax .i64 from f),j.get,OY];show oK (some (strOf (l.map (·.toNat)),a.put q (.row p r (vN r 1) TB s)):Option (U×H)) _;rw[ia,Ad];refine g _ ⟨vE _,λu v b=>AQ λy=>?_⟩;subst y;rcases b with b|b
   · omega
   · exact b _ _ _ _ w
theorem cB{lo:Nat}{a:H}{b:P}{l:List UInt8}{x:UInt8}{c:KV}(d:Gz lo a b l)(f:lo≤a.next.nat)(g:l.length+1≤1099511627776)(h:∀v i,Gz lo i b (l++[x])→sy lo b a i→c v i):W1 (.func 127) [.ptr b 0,.int .u8 (vJ x.toNat)] a c:=by
 obtain⟨t,j,k,h0,m,n⟩:=d;refine Alw (n:=1) AJ (Bba ?_);unfold Q4;refine Akx j h0 λo p q r s u w=>?_;rw[Aj,Ad,Ii];refine C6 q (by decide) ?_;have y:AY TB 1 lo o (AD p 1) (eb l):=by rw[s];exact m.frame (by rw[u];exact vE _) λc f _ i n z d s=>w c λm=>by subst m;rw[j] at s;cases s
 have j:b.nat<o.next.nat:=by rw[u];exact k
 rw[Aof,Ad,ue];refine Atd (ds:=[ub x]) (y.ext .new) rfl rfl (W4 (by rw[Gj];exact g)) (by rw[Bd,u];omega) rfl rfl λk y g a0=>?_;have a1:Ft TB lo o y:=(AP.GD .new).trans a0;have a0:o.next.nat=a.next.nat:=by rw[u]
 have a:=a1.1;rw[←bC] at g;rw[Aj,Ad,Ii];have o:y.at b=.row p 2 0 197 true:=by rw[a1.2 b j (.inr λa y z d s=>by rw[q] at s;cases s)];exact q
 refine FU o (vF _) (by decide) g.one ?_;have b:AD (Ai [k] 1 p) 1=k:=by rw[Am];simp
 refine h _ _ ⟨_,Bg _ _ _,by rw[Dc];omega,.inr (by rw[Am];simp[r]),?_,λe=>by simp at e⟩ ⟨by rw[Dc];omega,λc f j s=>?_⟩
 · rw[b];exact g.frame (vE _) λc f _ i n z d s=>AQ λm=>by subst m;rw[o] at s;cases s
 · rw[AQ j,a1.2 c (by rw[u];exact f) (s.imp id λs a y z d=>by rw[w c j];exact s a y z d),w c j]
end Go.Den
