/-
 Proof.
-/
import Derived.Test.YtmgalljhidgnoaaGreatDoorIst
open Nat renaming ble_eq_true_of_le → wY, add → vN, lt_irrefl → yd, lt_of_lt_of_le → vZ
open Option renaming rec → wz
open List renaming map_cons → yU, length_append → o7, map_append → u0
namespace Go.Den
open Go.RowKit
set_option maxRecDepth 100000
theorem M6{a:H}{q:P}{t:Tm}{b z o:Nat}{e:TypeId}{c:Bool}{cs:List U}(d:a.at q=.row t b z e c)(f:z≤o)(g:o+cs.length≤b):a.write q o cs=some (a.put q (.row (Ai cs o t) b z e c)):=by unfold Hp.write Hp.Ew;rw[d];show(LA a q o cs none some t b z e c:Option H)=_;unfold LA;rw[BU,wY f,show Nat.ble (vN o cs.length) b=true from wY g];show FK (Ai cs o t) (λt=>a.Gv q (.row t b z e c) some)=_;rw[FQ,Gi]
theorem JY{a:H}{q:P}{t:Tm}{b z o:Nat}{e:TypeId}{c:Bool}(d:a.at q=.row t b z e c)(f:o<b):a.E4 q o=some (AD t o):=by unfold Hp.E4 Hp.EP;rw[d];show(JV o none some t b:Option U)=_;unfold JV;rw[show Nat.ble (vN o 1) b=true from wY f];show BB (AD t o) some=_;rw[BI]
theorem Bcq{a:H}{q:P}{t:Tm}{e:TypeId}{n b:Int}(c:a.at q=.row t 1 0 e true)(d:AD t 0=.int .i64 n){f:KV}(g:∀h i,f (.int .i64 h) (a.put q (.row i 1 0 e true))):W1 (.func 105) [.ptr q 0,.int .i64 b] a f:=by
 refine Aqe ?_;refine By rfl ?_;have j:C1 (.Jc .i64) [.ptr q 0,.int .i64 b] a=some (.int .i64 (wrap .i64 (AW n b)),a.put q (.row (Ai [.int .i64 (wrap .i64 (AW n b))] 0 t) 1 0 e true)):=by show(wz none (λv=>wz none (λn=>wz none (λb=>wz none (λa=>some (.int .i64 (wrap .i64 (AW n b)),a)) (a.write q 0 [.int .i64 (wrap .i64 (AW n b))])) (LD .i64 (.int .i64 b))) (LD .i64 v)) (a.E4 q 0):Option (U×H))=_;rw[JY c Nat.one_pos,d];show(wz none (λa=>some (.int .i64 (wrap .i64 (AW n b)),a)) (a.write q 0 [.int .i64 (wrap .i64 (AW n b))]):Option (U×H))=_;rw[M6 (cs:=[.int .i64 (wrap .i64 (AW n b))]) c (Nat.le_refl _) (Nat.le_refl 1)]
 rw[j,Ad];exact g _ _
theorem c77{a:H}{q:P}{t:Tm}{e:TypeId}{n b:Int}(c:a.at q=.row t 1 0 e true)(d:AD t 0=.int .i64 n){f:KV}(g:∀h i,f (.int .i64 h) (a.put q (.row i 1 0 e true))):W1 (.func 77) [.ptr q 0,.int .i64 b] a f:=by refine w77 (n:=1) AJ (g77 ?_);unfold Wg;rw[Aj,Ad,Ae];refine Bcq c d λh i=>?_;rw[AG];exact g h i
theorem OP{b:Type}:∀(l r:List b),Eh l r=l++r
 |[],_=>rfl
 |a::l,r=>by show a::Eh l r=_;rw[OP l r];rfl
theorem Sn{p:List UInt8}:∀{a:Es}{b:List Fl}(c:Nat),a.map (·.1)=b.map (λf=>S f.1)→DA b p=none→Cb (S p) a c=some none
 |[],[],_,_,_=>rfl
 |[],_::_,_,d,_=>by cases d
 |_::_,[],_,d,_=>by cases d
 |(g,v,h)::a,f::b,c,d,i=>by
  rw[yU,yU] at d;injection d with j k;have j:g=S f.1:=j;subst j;have ne:f.1≠p:=λe=>by rw[DA,if_pos e] at i;cases i
  have l:DA b p=none:=by rw[DA,if_neg ne] at i;exact i
  rw[Sa,En,decide_eq_false λq=>ne q.symm];exact Sn (vN c 1) k l
theorem S3{p:List UInt8}{v:U}{b:Nat}:∀{es:Es}(a:Nat),Cb (S p) es a=some none→∃j,Cb (S p) (es++[(S p,v,b)]) a=some (some (v,b,j))
 |[],a,_=>⟨a,by show Cb (S p) ((S p,v,b)::[]) a=_;rw[Sa,En,decide_eq_true rfl]⟩
 |(c,d,f)::es,a,g=>by
  have e:∀(es:Es)(a:Nat),Cb (S p) ((c,d,f)::es) a=(wz none (λt=>Bool.rec (Cb (S p) es (vN a 1)) (some (some (d,f,a))) t) (Iw (S p) c):Option MW):=λ_ _=>rfl;rw[e] at g;show∃j,Cb (S p) ((c,d,f)::(es++[(S p,v,b)])) a=_;rw[e];cases q:Iw (S p) c with
  |none=>rw[q] at g;cases g
  |some t=>
   rw[q] at g;cases t with
   |true=>cases g
   |false=>exact S3 (es:=es) (vN a 1) g
theorem iQ(q:P)(l c:Nat)(h:H):BO env 84 (.map q) (.str l c) false h=(wz none (λp=>CW env 191 false (Cb (.str l c) p.1 0) h) (EJ (h.at q)):Option (U×H)):=by kernel_rfl
theorem oE(h:H):CW env 191 false (some none) h=some (.Bn,h):=by kernel_rfl
theorem Arx(q:P)(l c:Nat)(v:U)(h:H):Cg env 84 (.map q) (.str l c) v h=(wz none (λp=>HL q (.str l c) v p.1 p.2 (Cb (.str l c) p.1 0) h) (EJ (h.at q)):Option (U×H)):=by kernel_rfl
theorem Arq(q:P)(l c:Nat)(v:U)(h:H):Cg env 83 (.map q) (.str l c) v h=(wz none (λp=>HL q (.str l c) v p.1 p.2 (Cb (.str l c) p.1 0) h) (EJ (h.at q)):Option (U×H)):=by kernel_rfl
theorem Arv(q:P)(h:H):Hr env [83] (.map q) h=(wz none (λp=>some (.int .i64 (.ofNat (len p.1)),h)) (EJ (h.at q)):Option (U×H)):=by kernel_rfl
theorem Bgo:Dh env .eql 191 .Bn .Bn=some (.bool true):=by kernel_rfl
theorem Avw(h:H):AF env (env.ty 150) [] h=some (.agg [.int .i64 (.ofNat 0)],h):=by kernel_rfl
theorem Vc{q:P}{p:List UInt8}{v:U}{a:Es}{b:Nat}{c:H}(d:Cb (S p) a 0=some none):HL q (S p) v a b (Cb (S p) a 0) c=some (.undef,c.put q (.map (a++[(S p,v,b)]) (b+1))):=by rw[d,←OP];rfl
theorem c56{a:H}{b c d:P}{f:Es}{g:Nat}{p:List UInt8}(h:Dl a b 0 [.Af,.map c,.map d])(i:b.nat<a.next.nat)(k:d.nat<a.next.nat)(l:a.at d=.map f g)(m:Cb (S p) f 0=some none){n:KV}
 (o:∀q v r,CE (λs=>s=d) a q→q.at d=.map (f++[(S p,v,g)]) r→n (.tuple []) q):W1 (.func 56) [.ptr b 0,S p] a n:=by
 have t:b≠d:=λe=>Oq h (by rw[e];exact l);refine w56 (n:=2) AJ (g56 ?_);unfold Vp;rw[Aj,Ad,Ae];refine h.Z (j:=2) (by show 2<3;decide) ?_;show oK (BO env 84 (.map d) (S p) false a) _;rw[iQ,l];show oK (CW env 191 false (Cb (S p) f 0) a) _;rw[m,oE,Ad,Bgo,IG,AL];refine By rfl ?_;rw[Aj,Ad,Ae];refine h.Z (j:=2) (by show 2<3;decide) ?_;show oK (AF env (env.ty 150) [] a) _;rw[Avw,Ad,CB];refine CA (by simp) (BX ?_);have u:AP a (a.new (rowOf 150 [.int .i64 (.ofNat 0)])):=.new;have w:(a.new (rowOf 150 [.int .i64 (.ofNat 0)])).at a.next=.row (Ai [.int .i64 (.ofNat 0)] 0 .e) 1 0 150 true:=AS _ _;generalize a.new (rowOf 150 [.int .i64 (.ofNat 0)])=h1 at u w ⊢;have x:=u.1;have y:h1.at d=.map f g:=by rw[u.2 _ k];exact l
 show oK (Cg env 84 (.map d) (S p) (.ptr a.next 0) h1) _;rw[Arx,y];show oK (HL d (S p) (.ptr a.next 0) f g (Cb (S p) f 0) h1) _;rw[Vc m,Ad];have ne:a.next≠d:=λe=>by rw[←e] at k;exact yd _ k
 have n:(h1.put d (.map (f++[(S p,.ptr a.next 0,g)]) (g+1))).at d=.map (f++[(S p,.ptr a.next 0,g)]) (g+1):=Bg _ _ _;have q:Dl (h1.put d (.map (f++[(S p,.ptr a.next 0,g)]) (g+1))) b 0 [.Af,.map c,.map d]:=(h.ext u i).frame (AQ t);have r:(h1.put d (.map (f++[(S p,.ptr a.next 0,g)]) (g+1))).at a.next=.row (Ai [.int .i64 (.ofNat 0)] 0 .e) 1 0 150 true:=by rw[AQ ne];exact w
 have x:CE (λs=>s=d) a (h1.put d (.map (f++[(S p,.ptr a.next 0,g)]) (g+1))):=u.DV.trans (.put rfl);generalize h1.put d (.map (f++[(S p,.ptr a.next 0,g)]) (g+1))=h2 at n q r x ⊢;refine Axa ?_;unfold WH;rw[Aj,Ad,Ae];refine q.Z (j:=2) (by show 2<3;decide) ?_;show oK (BO env 84 (.map d) (S p) false h2) _;rw[iQ,n];obtain⟨j,l⟩:=S3 (v:=.ptr a.next 0) (b:=g) 0 m;show oK (CW env 191 false (Cb (S p) (f++[(S p,.ptr a.next 0,g)]) 0) h2) _;rw[l];show oK (some (.ptr a.next 0,h2)) _;rw[Ad];refine c77 (n:=.ofNat 0) r (by kernel_rfl) λy k=>?_;rw[AG];refine o _ (.ptr a.next 0) (g+1) ⟨by rw[Dc];exact x.1,λs b c=>?_⟩ (by rw[AQ ne.symm];exact n);rw[AQ λe=>by subst e;exact yd _ b,x.2 s b c]
theorem M1.snoc{a:H}{p x:List UInt8}{q:P}{b:Nat}:∀{c:Es}{d:List Fl},M1 a c d→Cl 4 a (.ptr q 0) x→M1 a (c++[(S p,.ptr q 0,b)]) (d++[(p,x)])
 |[],[],_,f=>⟨rfl,f,⟨q,rfl⟩,trivial⟩
 |_::_,_::_,⟨g,h,i,j⟩,f=>⟨g,h,i,M1.snoc j f⟩
 |[],_::_,a,_=>a.elim
 |_::_,[],a,_=>a.elim
theorem M1.none{a:H}{p:List UInt8}{es:Es}{b:List Fl}(c:M1 a es b)(d:DA b p=none):Cb (S p) es 0=some none:=by
 rcases c.look (p:=p) 0 with⟨_,e⟩|⟨x,_,_,_,e,_⟩
 · exact e
 · rw[d] at e;cases e
theorem c29{a:H}{b c d q:P}{f:List Fl}{p x:List UInt8}(tb:Hx a b c d f)(g:DA f p=none)(h:Cl 4 a (.ptr q 0) x){i:KV}
 (j:∀k,CE (λl=>l=c∨l=d) a k→Hx k b c d (f++[(p,x)])→i (.int .i64 (Int.ofNat 0)) k):W1 (.func 29) [.ptr b 0,S p,.ptr q 0,.int .i64 (Int.ofNat 0)] a i:=by
 obtain⟨m,n,o,s,t⟩:=tb.files;obtain⟨u,w,y,f⟩:=tb.fV;have i:=s.none g;have k:=Sn 0 f g;have g:b≠c:=λe=>Oq tb.row (by rw[e];exact o);have a0:b≠d:=λe=>Oq tb.row (by rw[e];exact y);refine w29 (n:=1) AJ (g29 ?_);unfold Xa;refine By rfl ?_;rw[Aj,Ad,Ae];refine tb.row.Z (j:=1) (by show 1<3;decide) ?_;show oK (Cg env 83 (.map c) (S p) (.ptr q 0) a) _;rw[Arq,o];show oK (HL c (S p) (.ptr q 0) m n (Cb (S p) m 0) a) _;rw[Vc i,Ad];have i:CE (λl=>l=c) a (a.put c (.map (m++[(S p,.ptr q 0,n)]) (n+1))):=.put rfl;have a1:(a.put c (.map (m++[(S p,.ptr q 0,n)]) (n+1))).at c=.map (m++[(S p,.ptr q 0,n)]) (n+1):=Bg _ _ _;have a2:(a.put c (.map (m++[(S p,.ptr q 0,n)]) (n+1))).at d=.map u w:=by rw[AQ tb.ne.symm];exact y
 have u:Dl (a.put c (.map (m++[(S p,.ptr q 0,n)]) (n+1))) b 0 [.Af,.map c,.map d]:=tb.row.frame (AQ g);have w:(a.put c (.map (m++[(S p,.ptr q 0,n)]) (n+1))).next=a.next:=rfl;generalize a.put c (.map (m++[(S p,.ptr q 0,n)]) (n+1))=h1 at i a1 a2 u w ⊢;refine c56 u (by rw[w];exact tb.nT) (by rw[w];exact tb.nV) a2 k λg v a3 a4 a5=>?_;have k:CE (λl=>l=c∨l=d) a g:=(i.weak λl e=>.inl e).trans (a4.weak λl e=>.inr e);have i:g.at c=.map (m++[(S p,.ptr q 0,n)]) (n+1):=by rw[a4.2 c (by rw[w];exact tb.nF) tb.ne];exact a1
 have l:∀m cs,Dl a m 0 cs→cs.length=5→¬(m=c∨m=d):=λm cs n _ e=>e.elim (λe=>by subst e;exact Oq n o) λe=>by subst e;exact Oq n y
 refine j g k ⟨u.frame (a4.2 b (by rw[w];exact tb.nT) a0),vZ tb.nT k.1,vZ tb.nF k.1,vZ tb.nV k.1,tb.ne,⟨_,_,i,(s.mono λv a r=>r.DV k l).snoc (h.DV k l),by rw[o7,o7,t];rfl⟩,⟨_,_,a5,by rw[u0,u0,f];rfl⟩⟩
end Go.Den
noncomputable section
namespace Go.Den
open Go.RowKit
set_option maxRecDepth 100000
theorem Vg.ext{e:TypeId}{sz lo:Nat}{h h':H}{v:U}{L:List (List U)}(a:Vg e sz lo h v L)(x:AP h h'):Vg e sz lo h' v L:=by
 rcases a with⟨rfl,q,rfl,b,c⟩|a
 · exact .inl ⟨rfl,q,rfl,vZ b x.1,by rw[x.2 q b];exact c⟩
 · exact .inr (a.ext x)
theorem LM{e:TypeId}{sz lo:Nat}{a:TI}{b:H}{v:U}{c:List (List U)}{ds:List U}{t:Tm}(d:Vg e sz lo b v c)(f:ds.length=sz)(g:a.size=sz)(h:Bl a (c.length+1)=true)(i:lo≤b.next.nat){j:KV}(k:∀l m,AY e sz lo m l (c++[ds])→Ft e lo b m→j l m):
 oK (BK (some false) v (.slice b.next 0 1 sz true) (b.new (.row (Ai ds 0 t) sz 0 e true)) e a) j:=
 Ato (M:=[ds]) (d.ext .new) (by rw[Lv f];simp) (λn o=>by simp at o;rw[o];exact f) g h (Nat.le_trans i (by rw[Bd];omega)) λl m _ p x=>k l m (p (by simp)) ((AP.GD .new).trans x)
def Z3:Tm:=Ai [.int .i64 (.ofNat 0)] 0 .e
theorem Bft(n:Int)(a:H):AE env 58 (λe b=>Ap 1 [(0,.int .i64 n)] a e b)=some (.slice a.next 0 1 1 true,a.new (.row (Ai [.int .i64 n] 0 Z3) 1 0 3 true)):=by kernel_rfl
theorem Atz(x y:U)(h:H):AB env .append [58,58] [x,y] h=BK (some false) x y h 3 (DS 3):=by kernel_rfl
theorem sz3:(DS 3).size=1:=by kernel_rfl
theorem Awo{n:Nat}(a:n≤1099511627776):Bl (DS 3) n=true:=G1 (by kernel_rfl) (by kernel_rfl) a
theorem KN.sub{sz o lo n:Nat}{t:Nat→U}{a:List (List U)}(b:KN sz o t a):KN sz (o+lo*sz) t ((a.drop lo).take n):=by
 intro c d;have f:lo+c<a.length:=by rw[List.length_take,List.length_drop] at d;omega
 rw[List.getElem_take,List.getElem_drop];refine⟨(b (lo+c) f).1,λj g=>?_⟩;have:=(b (lo+c) f).2 j g;rw[←this];congr 1;rw[Nat.add_mul];omega
end Go.Den
namespace Go.Den
open Go.RowKit
set_option maxRecDepth 100000
theorem Akr:Dh env .eql 32 .Af .Af=some (.bool true):=by kernel_rfl
theorem Auk(p q:P)(h:H):AF env (env.ty 86) [(0,.Af),(1,.map p),(2,.map q)] h=some (.agg [.Af,.map p,.map q],h):=by kernel_rfl
theorem Asb(h:H):AF env (env.ty 60) [(0,.Af)] h=some (.agg [.Af,.Af,.Af,.Af],h):=by kernel_rfl
theorem c11{a:H}{b:KV}(c:∀d f g h,AP a d→a.next.nat≤f.nat→a.next.nat≤g.nat→a.next.nat≤h.nat→Hx d f g h []→b (.tuple [.ptr f 0,.int .i64 (Int.ofNat 0)]) d):W1 (.func 11) [.Af] a b:=by
 refine w11 (n:=1) AJ (g11 ?_);unfold W9;rw[Fh];refine G8 (b:=false) (λi j=>?_) ?_
 · refine w26 (n:=1) AJ (g26 ?_);unfold V8;refine w53 (n:=2) AJ (g53 ?_);unfold Vr;rw[Fh];refine Axp ?_;unfold VH;refine AR rfl ?_;show Ar .i64 (.int .i64 (Int.negSucc 0)) _;rw[AG];show Be (.bool false) _;rw[AL];exact j
 refine AR rfl ?_;refine w27 (n:=1) AJ (g27 ?_);unfold Vy;rw[Akr,IG,AL];refine By rfl ?_;refine BX ?_;have k:AP a (a.new (.map [] 0)):=.new;have l:(a.new (.map [] 0)).next.nat=a.next.nat+1:=Bd;have m:(a.new (.map [] 0)).at a.next=.map [] 0:=AS _ _;generalize a.new (.map [] 0)=h1 at k m l ⊢;refine BX ?_;have n:AP h1 (h1.new (.map [] 0)):=.new;have o:(h1.new (.map [] 0)).next.nat=h1.next.nat+1:=Bd;have p:(h1.new (.map [] 0)).at h1.next=.map [] 0:=AS _ _;generalize h1.new (.map [] 0)=h2 at n p o ⊢;rw[Auk,Ad,CB];refine CA (by simp) (BX ?_);have q:AP h2 (h2.new (rowOf 86 [.Af,.map a.next,.map h1.next])):=.new;have r:(h2.new (rowOf 86 [.Af,.map a.next,.map h1.next])).next.nat=h2.next.nat+1:=Bd;have s:Dl (h2.new (rowOf 86 [.Af,.map a.next,.map h1.next])) h2.next 0 [.Af,.map a.next,.map h1.next]:=Dl.newRow;generalize h2.new (rowOf 86 [.Af,.map a.next,.map h1.next])=h3 at q s r ⊢;exact c h3 h2.next a.next h1.next ((k.trans n).trans q) (by omega) (by omega) (by omega)
  { row:=s,nT:=(by omega),nF:=(by omega),nV:=(by omega),ne:=(λe=>by rw[←e] at l;omega),files:=(⟨[],0,by rw[q.2 _ (by omega),n.2 _ (by omega)];exact m,trivial,rfl⟩),fV:=⟨[],0,by rw[q.2 _ (by omega)];exact p,rfl⟩ }
theorem cO(n:Int):Bm (AN n n)=false:=by rw[VB];rfl
end Go.Den
noncomputable section
namespace Go.Den
open Go.RowKit
set_option maxRecDepth 100000
structure cw where
 m:List UInt8
 fl:List UInt8
 f:Int
 t:Int
 md:Bool
def cw.cs(x:cw):List U:=[S x.m,S x.fl,.int .i64 x.f,.int .i64 x.t,.bool x.md]
structure Yx where
 k:Int
 s:List UInt8
 sp:Bool
 fl:List UInt8
 f:Int
 t:Int
 md:Bool
 sv:U
 st:List cw
def Yx.cs(x:Yx):List U:=[.int .i64 x.k,S x.s,.bool x.sp,S x.fl,.int .i64 x.f,.int .i64 x.t,.bool x.md,x.sv]
def uS(l:List cw):List (List U):=l.map cw.cs
theorem aP(l:List cw):(uS l).length=l.length:=List.length_map ..
theorem sD{l:List cw}{a:Nat}(b:a<l.length)(c:a<(uS l).length):(uS l)[a]=l[a].cs:=List.getElem_map ..
end Go.Den
