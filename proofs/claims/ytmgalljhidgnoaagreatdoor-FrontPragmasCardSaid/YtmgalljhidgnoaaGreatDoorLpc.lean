/-
 Proof.
-/
import Derived.Test.YtmgalljhidgnoaaGreatDoorLpb
open Nat renaming le_refl → vE, le_trans → vY, lt_of_lt_of_le → vZ, lt_or_ge → vG, le_succ → yB, not_lt_zero → vH
open Int renaming ofNat → vJ
open List renaming length_append → o7, drop_drop → yC, isPrefixOf → yu, drop_eq_nil_of_le → s8, takeWhile_cons → yD
noncomputable section
namespace Go.Den
open Go.RowKit
set_option maxRecDepth 100000
open Go.Lx (Rn AA Bi Co El Ih Dp DO Gg EI E9 Ey EG IP HA Cs)
abbrev CC:TypeId:=52
def Ee(e:TypeId)(lo:Nat)(p:P)(a b:H):Prop:=a.next.nat≤b.next.nat∧∀c,c.nat<a.next.nat→c≠p→(c.nat<lo∨∀t d z f,a.at c≠.row t d z e f)→b.at c=a.at c
theorem Ee.refl{e:TypeId}{lo:Nat}{p:P}{h:H}:Ee e lo p h h:=⟨vE _,λ_ _ _ _=>rfl⟩
theorem Ee.trans{e:TypeId}{lo:Nat}{p:P}{h d f:H}(a:Ee e lo p h d)(b:Ee e lo p d f):Ee e lo p h f:=by refine⟨vY a.1 b.1,λc g i j=>?_⟩;have k:=a.2 c g i j;rw[b.2 c (vZ g a.1) i (by rw[k];exact j),k]
theorem AP.Gd{e:TypeId}{lo:Nat}{p:P}{a b:H}(x:AP a b):Ee e lo p a b:=⟨x.1,λc d _ _=>x.2 c d⟩
theorem Ft.Gd{e:TypeId}{lo:Nat}{p:P}{a b:H}(x:Ft e lo a b):Ee e lo p a b:=⟨x.1,λc d _ f=>x.2 c d f⟩
theorem Ee.put{e:TypeId}{lo:Nat}{p:P}{h h':H}(a:h'.next=h.next)(b:∀c,c≠p→h'.at c=h.at c):Ee e lo p h h':=⟨by rw[a];exact vE _,λc _ d _=>b c d⟩
theorem AY.Gd{e a:TypeId}{sz lo b:Nat}{c d:H}{p:P}{v:U}{f:List (List U)}(g:AY e sz lo c v f)(x:Ee a b p c d)(h:e≠a){t:Tm}{i z:Nat}{j:TypeId}{k:Bool}(l:c.at p=.row t i z j k)(m:j≠e):AY e sz lo d v f:=
 g.frame x.1 λn o _ q r s u w=>x.2 n o (λy=>by subst y;rw[l] at w;cases w;exact m rfl) (.inr λa b c d y=>by rw[w] at y;cases y;exact h rfl)
theorem Ee.PX{e:TypeId}{lo:Nat}{p:P}{c d f:H}(a:AP c d)(g:c.next.nat≤lo)(h:c.next.nat≤p.nat)(b:Ee e lo p d f):AP c f:=
 ⟨vY a.1 b.1,λi j=>by rw[b.2 i (vZ j a.1) (λe=>by subst e;omega) (.inl (by omega)),a.2 i j]⟩
def dgC(n:Nat)(a:List U):List U:=.int .i64 (vJ n)::a
def Z52:Tm:=Ai [.int .i64 (.ofNat 0),.str 0 0,.int .i64 (.ofNat 0),.int .i64 (.ofNat 0)] 0 .e
theorem dO(a b c d:U)(f:H):AE env 31 (λe g=>Ap 1 [(0,.agg [a,b,c,d])] f e g)=some (.slice f.next 0 1 4 true,f.new (.row (Ai [a,b,c,d] 0 Z52) 4 0 CC true)):=by kernel_rfl
theorem dj(x y:U)(h:H):AB env .append [31,31] [x,y] h=BK (some false) x y h CC (DS CC):=by kernel_rfl
theorem qQ:(DS CC).size=4:=by kernel_rfl
theorem W2{n:Nat}(a:n≤1099511627776):Bl (DS CC) n=true:=G1 (by kernel_rfl) (by kernel_rfl) a
theorem dP(b:Int)(l c:Nat)(a d:Int)(f:H):AF env (env.ty CC) [(0,(.int .i64 b)),(1,.agg [.str l c,.int .i64 a,.int .i64 d])] f=some (.agg [.int .i64 b,.str l c,.int .i64 a,.int .i64 d],f):=by kernel_rfl
structure Wd(h:H)(pW:P)(fl:List UInt8)(L:List Rn)(a:Nat)(D:List (List U))(sp:Bool)(q:Int):Prop where
 w:∃vd,Wk h pW fl L a vd sp q∧AY CC 4 (pW.nat+1) h vd D
 len:D.length≤2*a+2
theorem Wk.Jp{b:H}{c:P}{d:List UInt8}{f:List Rn}{a:Nat}{g:U}{sp:Bool}{q:Int}(h:Wk b c d f a g sp q):∃t,b.at c=.row t 6 0 I3 true:=by obtain⟨t,i,_⟩:=h.row;exact⟨t,i⟩
section
variable{h:H}{pW:P}{fl:List UInt8}{L:List Rn}{a:Nat}{D:List (List U)}{sp:Bool}{q:Int}
theorem Wd.ext{h':H}(s:Wd h pW fl L a D sp q)(x:AP h h'):Wd h' pW fl L a D sp q:=by obtain⟨c,w,b⟩:=s.w;exact⟨⟨c,w.ext x,b.ext x⟩,s.len⟩
theorem Wd.n(s:Wd h pW fl L a D sp q):pW.nat<h.next.nat:=by obtain⟨c,w,b⟩:=s.w;exact w.n
theorem Wd.GD{e:TypeId}{lo:Nat}{c:H}(d:Wd h pW fl L a D sp q)(x:Ft e lo h c)(f:pW.nat+1≤lo)(g:CC≠e):Wd c pW fl L a D sp q:=by obtain⟨i,j,b⟩:=d.w;exact⟨⟨i,j.keep x.1 λk l=>x.2 k (by have:=j.n;omega) (.inl (by omega)),b.GD x g⟩,d.len⟩
theorem Wd.set{b:H}{c:U}{d:Nat}{f:Bool}{g:Int}(i:Wd h pW fl L a D sp q)(j:AY CC 4 (pW.nat+1) h c D)(k:b.next=h.next)(l:∀m,m≠pW→b.at m=h.at m)(n:a≤d)(o:Wk b pW fl L d c f g):Wd b pW fl L d D f g:=by obtain⟨_,p,_⟩:=i.w;obtain⟨t,r⟩:=p.Jp;refine⟨⟨c,o,j.frame (by rw[k];exact vE _) λm _ s _ _ _ _ _=>l m λe=>by subst e;omega⟩,by have:=i.len;omega⟩
theorem Wd.pos{K:Int→H→Prop}(s:Wd h pW fl L a D sp q)(b:K (vJ a) h):oK (Ag (.ptr pW 0) h) λc d=>Ac 2 c λf=>Z f d λg=>Ar .i64 g λn=>K n d:=by obtain⟨i,w,_⟩:=s.w;exact w.pos b
theorem Wd.l{K:U→H→Prop}(s:Wd h pW fl L a D sp q)(b:∀v,CI 3 h v (DM L)→K v h):oK (Ag (.ptr pW 0) h) λc d=>Ac 1 c λf=>Z f d λg=>K g d:=by obtain⟨i,w,_⟩:=s.w;exact w.l b
theorem Wd.quo{K:Int→H→Prop}(b:Wd h pW fl L a D sp q)(c:K q h):oK (Ag (.ptr pW 0) h) λd f=>Ac 5 d λg=>Z g f λi=>Ar .i64 i λn=>K n f:=by obtain⟨j,k,_⟩:=b.w;exact k.quo c
theorem Wd.setPos{K:H→Prop}(d:Wd h pW fl L a D sp q){b:Nat}(g:a≤b)(i:∀j,Ee CC (pW.nat+1) pW h j→j.next=h.next→(∀c,c≠pW→j.at c=h.at c)→Wd j pW fl L b D sp q→K j):oK (Ag (.ptr pW 0) h) λk l=>Ac 2 k λm=>BC m (.int .i64 (vJ b)) l K:=by obtain⟨o,p,r⟩:=d.w;exact p.setPos λj n f s=>i j (.put n f) n f (d.set r n f g s)
theorem Wd.HG{K:H→Prop}(s:Wd h pW fl L a D sp q){b:Bool}(c:∀d,Ee CC (pW.nat+1) pW h d→d.next=h.next→(∀g,g≠pW→d.at g=h.at g)→Wd d pW fl L a D b q→K d):oK (Ag (.ptr pW 0) h) λi j=>Ac 4 i λk=>BC k (.bool b) j K:=by obtain⟨l,m,o⟩:=s.w;exact m.HG λd n f p=>c d (.put n f) n f (s.set o n f (vE _) p)
theorem Wd.WB{K:H→Prop}(b:Wd h pW fl L a D sp q){c:Int}(d:∀g,Ee CC (pW.nat+1) pW h g→Wd g pW fl L a D sp c→K g):oK (Ag (.ptr pW 0) h) λi j=>Ac 5 i λk=>BC k (.int .i64 c) j K:=by obtain⟨l,m,o⟩:=b.w;exact m.WB λg n f p=>d g (.put n f) (b.set o n f (vE _) p)
theorem Wd.tell{K:H→Prop}(b:Wd h pW fl L a D sp q)(c:L.length≤1000000)(d:a≤1000000){n f t:Nat}(g:f<L.length)(i:0<t)(j:t≤L.length)(k:D.length+1≤2*a+2)(l:∀m,Ee CC (pW.nat+1) pW h m→Wd m pW fl L a (D++[dgC n (H5 fl L f t)]) sp q→K m):
 oK (Ag (.ptr pW 0) h) λo p=>Ac 3 o λr=>Z r p λs=>
  W1 (.func 128) [.ptr pW 0,.int .i64 (vJ f),.int .i64 (vJ t)] p λu v=>
   Z r v λw=>BE w s<|
    oK (AF env (env.ty CC) [(0,(.int .i64 (vJ n))),(1,u)] v) λy c=>
     oK (AE env 31 (λe d=>Ap 1 [(0,y)] c e d)) λo p=>
      Z r p λw=>BE w s<|
       oK (AB env .append [31,31] [s,o] p) λu v=>
        oK (Ag (.ptr pW 0) v) λc d=>Ac 3 c λy=>BC y u d K:=by
 obtain⟨r,w,o⟩:=b.w;have p:=b.len;obtain⟨s,v,c,d,u,g3,y,g5,g6⟩:=w.row;have p:∀{m:H}{K:U→Prop},AP h m→K r→Go.Den.Z (.ptr pW (0+3)) m K:=λx b=>by refine C6 (by rw[x.2 _ w.n];exact v) (by decide) ?_;rw[show AD s (0+3)=r from y];exact b
 rw[Aj,Ad,Ae];refine p .refl ?_;refine uE w g i j (by omega) λc d=>?_;refine p d ?_;rw[QO o.sl];unfold H5;rw[dP,Ad,dO,Ad];refine p (d.trans .new) ?_;rw[QO o.sl,dj];have u:=w.ext d;have m:=o.ext d;refine LM (lo:=pW.nat+1) (ds:=[.int .i64 (vJ n),S fl,.int .i64 (vJ (El L f)),.int .i64 (vJ (Ih L (t-1)))]) (.inr m) rfl qQ (W2 (by omega)) (by have:=u.n;omega) λv s y k2=>?_;have b:Wk s pW fl L a r sp q:=u.keep k2.1 λc g=>k2.2 c (by have:=u.n;omega) (.inl g);refine b.Axf y.one λi j f3 w3=>?_;refine l i ((d.Gd.trans k2.Gd).trans (.put j f3)) ⟨⟨v,w3,?_⟩,by rw[o7];exact k⟩;exact y.frame (by rw[j];exact vE _) λc _ g _ _ _ _ _=>f3 c λe=>by subst e;omega
def N8(s:List UInt8):Bool:=match EG s with
 |some k=>(Dp (Cs s k) (s.drop (k+1))).isNone
 |none=>false
def Li(s:List UInt8):Nat×Nat:=match EG s with
 |some k=>match Dp (Cs s k) (s.drop (k+1)) with
  |some n=>(if Cs s k=34 then 4 else 3,k+1+n)
  |none=>(0,0)
 |none=>(0,0)
theorem nQ{b:List UInt8}{a c:Nat}(h:EG (b.drop a)=some c):a+c<b.length∧bt b (a+c)≠92:=by
 have d:Cs (b.drop a) 0=bt b a:=FJ;have f:Cs (b.drop a) 1=bt b (a+1):=FJ;have g:Cs (b.drop a) 2=bt b (a+2):=FJ;have i:bt b (a+c)=34∨bt b (a+c)=39:=by
  unfold EG at h;rw[d,f,g] at h;split at h
  · rename_i j;cases h;exact j
  · split at h
    · rename_i j;cases h;exact .inl j.2.2
    · split at h
      · rename_i j;cases h;exact j.2
      · cases h
 refine⟨?_,λe=>by rcases i with c|c<;>(rw[c] at e;exact absurd e (by decide))⟩;rcases vG (a+c) b.length with k|k
 · exact k
 · rw[GL k] at i;rcases i with c|c<;>exact absurd c (by decide)
theorem Bdb(s:Wd h pW fl L a D sp q)(b:L.length≤1000000)(c:a<L.length)(d:D.length+1≤2*a+2){f:KV}(g:∀i D' j,Ee CC (pW.nat+1) pW h i→Wd i pW fl L a D' sp j→(N8 ((AA L).drop a)=false→D'=D∧j=q)→D'.length≤D.length+1→f (.tuple [.int .i64 (vJ (Li ((AA L).drop a)).1),.int .i64 (vJ (Li ((AA L).drop a)).2)]) i):W1 (.func 173) [.ptr pW 0] h f:=by
 refine Aqc (n:=2) AJ (Bfz ?_);unfold PZ;obtain⟨k,l,m⟩:=s.w;refine Bhb l b (by omega) λo p=>?_;have r:=s.ext p;rw[AG];unfold Li N8 at g;cases t:EG ((AA L).drop a) with
 |none=>rw[t] at g;exact By rfl (g o D q p.Gd r (λ_=>⟨rfl,rfl⟩) (yB _))
 |some u=>
  rw[t] at g;obtain⟨v,w⟩:=nQ t;rw[Bj] at v;have x:Cs ((AA L).drop a) u=bt (AA L) (a+u):=FJ;simp only[] at g;rw[x,yC] at g;show V (Ba (vJ u) (vJ 0)) _ _;refine AR (by rw[Cr];simp) ?_;obtain⟨y,c,f⟩:=r.w;refine Bdv c b v w ?_;rw[AG,show Ba (vJ 0) (vJ (F9 (bt (AA L) (a+u)) (AA L) a (u+1)))=decide (0<F9 (bt (AA L) (a+u)) (AA L) a (u+1)) from Cr _ _];unfold F9;cases i:Dp (bt (AA L) (a+u)) ((AA L).drop (a+(u+1))) with
  |some n=>
   rw[i] at g;refine By (decide_eq_true (show 0<u+1+n by omega)) ?_;refine Ud c (by omega) ?_;unfold ub;rw[AG,show AN (vJ (bt (AA L) (a+u)).toNat) (vJ 34)=decide (bt (AA L) (a+u)=34) from H4 _ 34 (by decide)];have fin:=g o D q p.Gd r (λ_=>⟨rfl,rfl⟩) (yB _);refine Bp (λe=>?_) (λe=>?_)
   · rw[if_pos (of_decide_eq_true e)] at fin;refine gr ?_;unfold Nj;exact fin
   · rw[if_neg (of_decide_eq_false e)] at fin;refine gr ?_;unfold Nj;exact fin
  |none=>
   rw[i] at g;refine AR (decide_eq_false (by show¬0<0;omega)) ?_;refine r.pos (Bx (by omega) (r.quo ?_));refine Bp (λe=>?_) (λe=>?_)
   · have j:fI (wrap .i64 (AW (vJ (a+u)) (vJ 1)))=λK=>K (vJ (a+u+1)):=by funext K;rw[Ep,C9 (by omega),BW]
     rw[j];refine r.tell b (by omega) (n:=2) v (by omega) (by omega) d λk m l=>?_;refine l.WB λt x f=>?_;exact g t _ _ ((p.Gd.trans m).trans x) f (λe=>by cases e) (by rw[o7];exact vE _)
   · exact g o D q p.Gd r (λe=>by cases e) (yB _)
theorem hP{x y:UInt8}{r:List UInt8}:E9 (x::y::r)=if x=42∧y=47 then some 2 else(E9 (y::r)).map (·+1):=by rw[E9]
theorem Ake{x:UInt8}:E9 [x]=none:=by rw[E9]
theorem gF:E9 []=none:=by rw[E9]
theorem tZ{b:List UInt8}{a:Nat}{x c:UInt8}(d:x≠0)(f:c≠0):yu [x,c] (b.drop a)=(decide (bt b a=x)&&decide (bt b (a+1)=c)):=by
 rcases vG a b.length with h|h
 · rw[drop_cons h,Fk,DF h];rcases vG (a+1) b.length with g|g
   · rw[drop_cons g,Fk,DF g,show yu [] (b.drop (a+1+1))=true by cases b.drop (a+1+1)<;>rfl,Bool.and_true];congr 1<;>exact decide_eq_decide.2 eq_comm
   · rw[s8 g,GL g,decide_eq_false (show¬(0:UInt8)=c from λe=>f e.symm)];show(_&&false)=(_&&false);rw[Bool.and_false,Bool.and_false]
 · rw[s8 h,GL h,decide_eq_false (λe=>d e.symm)];rfl
theorem iD(a:L.length≤1000000){b:H}{c:KV}{e:Nat}(d:∀f,Ee CC (pW.nat+1) pW b f→Wd f pW fl L e D sp q→c (.tuple [.bool true,.bool false]) f):∀(n p:Nat){h:H},L.length-p<n→p≤L.length→e=p+(((AA L).drop p).takeWhile (·≠10)).length→Ee CC (pW.nat+1) pW b h→Wd h pW fl L p D sp q→(KO W1 c n).a1 (.ptr pW 0) h
 |0,_,_,g,_,_,_,_=>absurd g (vH _)
 |n+1,p,h,g,i,j,x,s=>by
  refine Afa ?_;unfold QY;refine s.pos (s.l λv k=>?_);rw[k.len,B6,Cr];have fin:(L.length≤p∨∃l:p<L.length,L[p].1=10)→c (.tuple [.bool true,.bool false]) h:=λm=>by
   have o:e=p:=by
    rcases m with m|⟨m,r⟩
    · rw[s8 (by rw[Bj];exact m)] at j;exact j
    · have t:p<(AA L).length:=by rw[Bj];exact m
      rw[drop_cons t,Jd m,yD,if_neg (by simpa using r)] at j;exact j
   rw[o] at d;exact d h x s
  refine Dm (λm=>?_) (λm=>AR rfl (fin (.inl (by have:=of_decide_eq_false m;omega))));have m:p<L.length:=of_decide_eq_true m;have t:p<(AA L).length:=by rw[Bj];exact m
  refine s.l λu w=>s.pos (Ld w m ?_);rw[show AN (vJ L[p].1.toNat) (vJ 10)=decide (L[p].1=10) from H4 _ 10 (by decide),FL];refine Bp (λy=>?_) (λy=>fin (.inr ⟨m,by simpa using y⟩));have y:L[p].1≠10:=by simpa using y
  refine s.pos (Bx (by omega) (s.setPos (b:=p+1) (yB _) λl b _ _ f=>?_));refine iD a d n (p+1) (by omega) m ?_ (x.trans b) f;rw[drop_cons t,Jd m,yD,if_pos (by simpa using y),List.length_cons] at j;omega
theorem ib (a : L.length ≤ 1000000) {b : H} {a0 : Nat} (c : a0 + 2 ≤ L.length) (d : D.length + 1 ≤ 2 * a0 + 2) {f : KV} (g : ∀ i D' j o, Ee CC (pW.nat + 1) pW b i → Wd i pW fl L j D' sp q → (o = false → D' = D) → D'.length ≤ D.length + 1 → (match E9 ((AA L).drop (a0 + 2)) with
      | some n => j = a0 + 2 + n ∧ o = false
      | none => j = L.length ∧ o = true) → f (.tuple [.bool true, .bool o]) i) : ∀ (n p : Nat) {h : H}, L.length - p < n → a0 + 2 ≤ p → p ≤ L.length → (E9 ((AA L).drop (a0 + 2)) = (E9 ((AA L).drop p)).map (· + (p - (a0 + 2)))) → Ee CC (pW.nat + 1) pW b h → Wd h pW fl L p D sp q → (KO W1 f n).a2 (.ptr pW 0) (vJ a0) h
  | 0, _, _, k, _, _, _, _, _ => absurd k (vH _)
  | n + 1, p, h, k, l, m, t, x, s => by
    refine Aiy ?_;unfold QS;refine s.pos (s.l λv u => ?_);rw [u.len, B6, Cr];refine Bp (λw => ?_) (λw => ?_)
    · have w : p < L.length := of_decide_eq_true w;have y : p < (AA L).length := by rw [Bj]; exact w
      obtain ⟨b, f, i⟩ := s.w;refine YJ (s := [42, 47]) f (by omega) (by show p + 2 ≤ _; omega) (by omega) ?_;rw [AL, tZ (by decide) (by decide)];refine Bp (λj => ?_) (λj => ?_)
      · simp only [Bool.and_eq_true, decide_eq_true_eq] at j;have k : p + 1 < (AA L).length := by
          rcases vG (p + 1) (AA L).length with l | l
          · exact l
          · rw [GL l] at j; exact absurd j.2 (by decide)
        have m : p + 1 < L.length := by rw [Bj] at k; exact k
        rw [drop_cons y, drop_cons k, hP, if_pos ⟨by rw [← DF y]; exact j.1, by rw [← DF k]; exact j.2⟩] at t;refine s.pos (Bx (by omega) (s.setPos (b := p + 2) (by omega) λl u _ _ b => ?_));refine g l D (p + 2) false (x.trans u) b (λ_ => rfl) (yB _) ?_;rw [t];show p + 2 = a0 + 2 + (2 + (p - (a0 + 2))) ∧ false = false;exact ⟨by omega, rfl⟩
      · refine s.pos (Bx (by omega) (s.setPos (b := p + 1) (yB _) λl u _ _ b => ?_));refine ib a c d g n (p + 1) (by omega) (by omega) w ?_ (x.trans u) b;rw [t, drop_cons y];have i : ∀ o : Option Nat, (o.map (· + 1)).map (· + (p - (a0 + 2))) = o.map (· + (p + 1 - (a0 + 2))) := λo => by
          cases o with
          | none => rfl
          | some f =>show some (f + 1 + (p - (a0 + 2))) = some (f + (p + 1 - (a0 + 2)));congr 1; omega
        cases m : (AA L).drop (p + 1) with
        | nil => rw [Ake, gF]; rfl
        | cons d r =>
          have k : p + 1 < (AA L).length := by
            rcases vG (p + 1) (AA L).length with l | l
            · exact l
            · rw [s8 l] at m; cases m
          have f : bt (AA L) (p + 1) = d := by rw [DF k];rw [drop_cons k] at m;injection m
          have k : ¬ ((AA L)[p] = 42 ∧ d = 47) := λe => by rw [← DF y, ← f] at e;rw [decide_eq_true e.1, decide_eq_true e.2] at j; cases j
          rw [hP, if_neg k, i]
    · have w : p = L.length := by have := of_decide_eq_false w; omega
      subst w;rw [show (AA L).drop L.length = [] from s8 (by rw [Bj]; exact vE _), gF] at t;have m : fI (wrap .i64 (AW (vJ a0) (vJ 2))) = λK => K (vJ (a0 + 2)) := by funext K;rw [Ep, C9 (by omega), BW]
      rw [m];refine s.tell a a (n := 1) (f := a0) (t := a0 + 2) (by omega) (by omega) c (by omega) λl u b => ?_;refine g l _ L.length true (x.trans u) b (λe => by cases e) (by rw [o7]; exact vE _) ?_;rw [t];exact ⟨rfl, rfl⟩
theorem Anx(s:Wd h pW fl L a D sp q)(c:L.length≤1000000)(d:a<L.length)(f:D.length+1≤2*a+2){k:KV}
 (g:∀i D' j l o,Ee CC (pW.nat+1) pW h i→Wd i pW fl L j D' sp q→(o=false→D'=D)→D'.length≤D.length+1→(match EI ((AA L).drop a) with
  |none=>j=a∧l=false∧o=false
  |some (n,b)=>j=a+n∧l=true∧o=b)→k (.tuple [.bool l,.bool o]) i):W1 (.func 125) [.ptr pW 0] h k:=by
 refine Anp (n:=L.length+3) AJ (Bha ?_);unfold QR;have a0:Cs ((AA L).drop a) 0=bt (AA L) a:=FJ;have m:Cs ((AA L).drop a) 1=bt (AA L) (a+1):=FJ;obtain⟨p,r,t⟩:=s.w;unfold EI at g;rw[a0,m] at g;refine s.pos ?_;refine YJ (s:=[47,47]) r (by omega) (by show a+2≤_;omega) (by omega) ?_;rw[AL,tZ (by decide) (by decide)];refine Bp (λu=>?_) (λu=>?_)
 · simp only[Bool.and_eq_true,decide_eq_true_eq] at u;rw[if_neg (λe=>e u.1),if_pos u.2] at g;exact iD c (λi v w=>g i D _ true false v w (λ_=>rfl) (yB _) ⟨rfl,rfl,rfl⟩) _ a (by omega) (by omega) rfl .refl s
 refine YJ (s:=[47,42]) r (by omega) (by show a+2≤_;omega) (by omega) ?_;rw[AL,tZ (by decide) (by decide),FL];refine Bp (λx=>?_) (λx=>?_)
 · have y:k (.tuple [.bool false,.bool false]) h:=by
    by_cases c0:bt (AA L) a=47
    · have d:bt (AA L) (a+1)≠47:=λe=>by rw[decide_eq_true c0,decide_eq_true e] at u;cases u
      have l:bt (AA L) (a+1)≠42:=λe=>by rw[decide_eq_true c0,decide_eq_true e] at x;cases x
      rw[if_neg (λe=>e c0),if_neg d,if_pos l] at g;exact g h D a false false .refl s (λ_=>rfl) (yB _) ⟨rfl,rfl,rfl⟩
    · rw[if_pos c0] at g;exact g h D a false false .refl s (λ_=>rfl) (yB _) ⟨rfl,rfl,rfl⟩
   exact y
 · have x:bt (AA L) a=47∧bt (AA L) (a+1)=42:=by simpa using x
   have d:bt (AA L) (a+1)≠47:=λe=>by rw[e] at x;exact absurd x.2 (by decide)
   rw[if_neg (λe=>e x.1),if_neg d,if_neg (λe=>e x.2),yC] at g;have p:a+1<L.length:=by
    rcases vG (a+1) L.length with t|t
    · exact t
    · rw[LO t] at x;exact absurd x.2 (by decide)
   refine s.pos (Bx (by omega) (s.setPos (b:=a+2) (by omega) λt m _ _ r=>?_));refine ib c (a0:=a) (by omega) f (λi D' j o v w u l y=>?_) _ (a+2) (by omega) (vE _) (by omega) (by rw[Nat.sub_self];cases E9 ((AA L).drop (a+2))<;>rfl) m r;refine g i D' j true o v w u l ?_;cases d:E9 ((AA L).drop (a+2)) with
   |some n=>rw[d] at y;exact⟨by rw[y.1];omega,rfl,y.2⟩
   |none=>rw[d] at y;refine⟨?_,rfl,y.2⟩;rw[y.1,List.length_drop,Bj];omega
end
end Go.Den
