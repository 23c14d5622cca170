/-
 Proof.
-/
import Derived.Test.YtmgalljhidgnoaaGreatDoorDenQ
import Derived.Test.YtmgalljhidgnoaaGreatDoorLpx
open List renaming replicate → vL, getD_eq_getElem?_getD → vM
open Nat renaming lt_of_lt_of_le → vZ
noncomputable section
namespace Go.Den
open Go.RowKit
def Mu.sub(μ:Mu)(ρ:P→P)(hs:H):Mu:=λc=>if c.nat<hs.next.nat then μ (ρ c) else none
theorem Mu.sub_lt{μ:Mu}{ρ:P→P}{hs:H}{c:P}(h:c.nat<hs.next.nat):μ.sub ρ hs c=μ (ρ c):=if_pos h
theorem Ez.plain{μ b:Mu}:∀{a:Es}{c:List MapEntry},(∀x∈a,Den.plain x.1=true∧Den.plain x.2.1=true)→Ez μ a c→Ez b a c
 |[],_,_,r=>r
 |e::_,_,d,⟨x,f,h0,g,h,i,j⟩=>⟨x,f,h0,VR.plain _ _ (d e (by simp)).1 g,VR.plain _ _ (d e (by simp)).2 h,i,Ez.plain (λk l=>d k (by simp[l])) j⟩
theorem qe{Pr:Program}{G:Nat}{e1:FuncId}{e3 sargs:List U}{c k:H}{f5:KV}{r:U}{ρ:P→P}{B b0:P}{tb ts tb':Tm}{n iq:Nat}{e:TypeId}{t:Bool}{a6:Es}{a7:Nat}{cs:Nat→U}
 (c2:c.at B=.row tb n 0 e t) (k6:k.at b0=.row ts n 0 e t) (d2:∀b,b≠b0→k.at b≠.dead→b.nat<k.next.nat∧∃f b8,k.at b=.ext f b8∧c.at (ρ b)=.ext f b8∧∀d,d<b8→plain (f d)=true) (i7:b0.nat<k.next.nat) (k9:ρ b0=B)
 (i4:∀b6,b6<G→ρ (CH b6)=CH b6∧(CH b6).nat<k.next.nat)
 (i2:∀(μ:Mu) vs,BN μ e3 vs→∃l,μ B=some l)
 (g:∀d,d<n→∀(μ:Mu) v,VR μ (AD tb d) v→(AD tb d).one=true→VR (μ.sub ρ k) (AD ts d) v∧(AD ts d).one=true)
 (i5:∀(μ:Mu) vs,BN μ e3 vs→BN (μ.sub ρ k) sargs vs)
 (k0:plain r=true) (j8:∀x∈a6,plain x.1=true∧plain x.2.1=true) (j3:iq<n)
 (j9:AD tb' iq=.map c.next)
 (i8:∀d,d<n→d≠iq→∀(μ a1:Mu) v,Mu.le (μ.sub ρ k) a1→(∃g1,VR μ (AD tb d) g1)→VR a1 (cs d) v→(cs d).one=true→VR μ (AD tb' d) v∧(AD tb' d).one=true)
 (k5:SW Pr G (.func e1) sargs k λv u=>v=r∧∃b3 q,u.at b0=.row b3 n 0 e t∧k.next.nat≤q.nat∧u.at q=.map a6 a7∧AD b3 iq=.map q∧∀d,d<n→d≠iq→AD b3 d=cs d)
 (j4:f5 r ((c.put B (.row tb' n 0 e t)).new (.map a6 a7))):SW Pr G (.func e1) e3 c f5:=λμ e0 e9 l5 a2 i0 g8 h1=>by
 obtain⟨y,a4⟩:=i2 μ _ h1;have d3:μ.sub ρ k b0=some y:=by rw[Mu.sub_lt i7,k9];exact a4
 have i3:B.nat<c.next.nat:=a2.fresh _ _ a4;have f6:=a2.ob B y (by rw[c2];exact λe=>nomatch e) a4;rw[c2] at f6;have l4:Bc (μ.sub ρ k) k e0:=by
  refine⟨λm l c3=>?_,λm c3=>?_,λm l c3 h=>?_,λm b4 l c6 o w h d7 p=>?_⟩
  · rcases Nat.lt_or_ge m.nat k.next.nat with o|o
    · exact o
    · unfold Mu.sub at c3;rw[if_neg (by omega)] at c3;cases c3
  · by_cases g7:k.at m=.dead
    · exact g7
    · have:=(d2 m (λe=>by subst e;omega) g7).1;omega
  · by_cases eb:m=b0
    case neg=>obtain⟨a8,f,b8,a9,b1,d6⟩:=d2 m eb c3;rw[Mu.sub_lt a8] at h;have h5:=a2.ob (ρ m) l (by rw[b1];exact λe=>nomatch e) h;rw[b1] at h5;rw[a9];obtain⟨c7,b5,c8,k1,k2,k3,k4⟩:=h5;refine⟨c7,b5,c8,k1,k2,k3,λd hi=>?_⟩;obtain⟨v,b7,c4,c5⟩:=k4 d hi;exact⟨v,b7,VR.plain _ _ (d6 d hi) c4,c5⟩
    subst eb;rw[d3] at h;cases h;rw[k6];obtain⟨c7,c8,k1,k2,k3,k4⟩:=f6;refine⟨c7,c8,k1,⟨k2.1,k2.2.1,λd hi=>?_⟩,k3,k4⟩;obtain⟨v,b7,c4,c5⟩:=k2.2.2 d hi;obtain⟨d4,c0⟩:=g d hi μ v c4 c5;exact⟨v,b7,d4,c0⟩
  · have eb:m=b0:=by
     by_cases e:m=b0
     · exact e
     · obtain⟨_,f,b8,a9,_⟩:=d2 m e (λb5=>by rw[b5] at o;cases o);rw[a9] at o;cases o
    by_cases g5:b4=b0
    · rw[eb,g5]
    · obtain⟨a8,f,b8,a9,b1,d6⟩:=d2 b4 g5 w;rw[Mu.sub_lt a8] at d7;rw[eb,d3] at h;cases h;have:=a2.inj B (ρ b4) y c6 (by rw[c2];rfl) (by rw[b1];exact λe=>nomatch e) a4 d7 p;rw[←this,c2] at b1;cases b1
 have gs:DE (μ.sub ρ k) G:=λb6 g9=>by obtain⟨l,a8,a9⟩:=i0 b6 g9;obtain⟨b1,d6⟩:=i4 b6 g9;exact⟨l,by rw[Mu.sub_lt d6,b1];exact a8,a9⟩
 have h4:∀v a5 a1 av u,Bc a1 u a5→BF (μ.sub ρ k) k e0 a1 u a5→VR a1 av v→(av=r∧∃b3 q,u.at b0=.row b3 n 0 e t∧k.next.nat≤q.nat∧u.at q=.map a6 a7∧AD b3 iq=.map q∧∀d,d<n→d≠iq→AD b3 d=cs d)→
  ∃b9 c1 w,Bc b9 w a5∧BF μ c e0 b9 w a5∧VR b9 c1 v∧f5 c1 w:=by
  rintro v a5 a1 av u g0 x i6 ⟨rfl,b3,q,f9,m2,r3,l3,r5⟩;have h7:=g0.ob b0 y (by rw[f9];exact λe=>nomatch e) (x.le _ _ d3);rw[f9] at h7;obtain⟨c7,c8,k1,k2,k3,k4⟩:=h7;obtain⟨m4,h2,h3,_⟩:=k2.2.2 iq j3;rw[l3] at h3;obtain⟨a0,d8,k8⟩:=h3;have i9:q≠b0:=λe=>by subst e;omega
  have h8:=g0.ob q a0 (by rw[r3];exact λe=>nomatch e) d8;rw[r3] at h8;have f3:a0.blk≠y.blk:=λe=>i9 (g0.inj q b0 a0 y (by rw[r3];rfl) (by rw[f9];exact λe=>nomatch e) d8 (x.le _ _ d3) e);have j6:μ c.next=none:=a2.none (Nat.le_refl _);have f1:Mu.le μ (μ.set c.next a0):=Mu.LU j6;have f4:((c.put B (.row tb' n 0 e t)).new (.map a6 a7)).next.nat=c.next.nat+1:=P.Ce _;have m1:B≠c.next:=λe=>by rw[e] at i3;omega
  have d9:∀j,Own (μ.sub ρ k) k j→j=y.blk:=λj d1=>by
   obtain⟨m,l,o,w,c9⟩:=d1;have eb:m=b0:=by
    by_cases e:m=b0
    · exact e
    · obtain⟨_,f,b8,a9,_⟩:=d2 m e (λb5=>by rw[b5] at o;cases o);rw[a9] at o;cases o
   subst eb;rw[d3] at w;cases w;exact c9.symm
  have f8:Own μ c y.blk:=⟨B,y,by rw[c2];rfl,a4,rfl⟩;have f7:∀b l,b≠B→c.at b≠.dead→μ b=some l→l.blk≠y.blk:=λb l g6 g h p=>g6 (a2.inj B b y l (by rw[c2];rfl) g a4 h p.symm).symm;have h0:∀b l,b≠B→c.at b≠.dead→μ b=some l→a0.blk≠l.blk:=λb l g6 g h p=>by have j5:=(a2.ob b l g h).lt g;have:=d9 a0.blk (x.own _ (by rw[p];exact j5) ⟨q,a0,by rw[r3];rfl,d8,rfl⟩);exact f3 this
  refine⟨μ.set c.next a0,av,_,⟨?_,?_,?_,?_⟩,⟨f1,x.size,?_,?_,⟨by rw[f4];omega,λb g em=>?_⟩,x.os,x.tape,x.output⟩,VR.plain _ _ k0 i6,j4⟩
  · intro b l g;rw[f4];by_cases i:b=c.next
    · subst i;omega
    · rw[Mu.Bs _ _ i] at g;have:=a2.fresh b l g;omega
  · intro b g;rw[f4] at g;rw[CO,if_neg (λe=>by subst e;exact absurd g (by show¬c.next.nat+1≤c.next.nat;omega)),Eb,if_neg (λe=>by subst e;omega)];exact a2.dead b (by omega)
  · intro b l g h;rw[CO] at g ⊢;by_cases i:b=(c.put B (.row tb' n 0 e t)).next
    · rw[if_pos i];have i:b=c.next:=i;subst i;rw[Mu.BD] at h;cases h;obtain⟨l6,l1,l2⟩:=h8;exact⟨l6,l1,l2.plain j8⟩
    · rw[if_neg i] at g ⊢;rw[Mu.Bs _ _ (show b≠c.next from i)] at h;rw[Eb] at g ⊢;by_cases s:b=B
      · rw[if_pos s];subst s;rw[a4] at h;cases h;refine⟨c7,c8,k1,⟨k2.1,k2.2.1,λd hi=>?_⟩,k3,k4⟩;obtain⟨v,b7,c4,c5⟩:=k2.2.2 d hi;by_cases e8:d=iq
        · subst e8;rw[j9];rw[h2] at b7;cases b7;exact⟨_,h2,⟨a0,Mu.BD _ _ _,k8⟩,rfl⟩
        · rw[r5 d hi e8] at c4 c5;obtain⟨_,_,_,l0,_⟩:=f6;obtain⟨g1,_,k7,_⟩:=l0.2.2 d hi;obtain⟨d4,c0⟩:=i8 d hi e8 μ a1 v x.le ⟨g1,k7⟩ c4 c5;exact⟨v,b7,VR.mono f1 _ _ d4,c0⟩
      · rw[if_neg s] at g ⊢;have h6:=a2.ob b l g h;refine(h6.mono f1).world (x.keep _ (h6.lt g) λf2=>?_);exact f7 b l s g h (d9 _ f2)
  · have g4:∀b l,((c.put B (.row tb' n 0 e t)).new (.map a6 a7)).at b≠.dead→(μ.set c.next a0) b=some l→(b=c.next∧l=a0)∨(b=B∧l=y)∨(b≠c.next∧b≠B∧c.at b≠.dead∧μ b=some l∧((c.put B (.row tb' n 0 e t)).new (.map a6 a7)).at b=c.at b):=λb l g h=>by
     by_cases i:b=c.next
     · left;refine⟨i,?_⟩;subst i;rw[Mu.BD] at h;cases h;rfl
     · rw[Mu.Bs _ _ i] at h;by_cases s:b=B
       · right;left;refine⟨s,?_⟩;subst s;rw[a4] at h;cases h;rfl
       · right;right;have a8:((c.put B (.row tb' n 0 e t)).new (.map a6 a7)).at b=c.at b:=by rw[CO,if_neg (show¬b=(c.put B (.row tb' n 0 e t)).next from i),Eb,if_neg s]
         rw[a8] at g;exact⟨i,s,g,h,a8⟩
    intro b d5 l c6 g j0 h d7 p;have j1:((c.put B (.row tb' n 0 e t)).new (.map a6 a7)).at b≠.dead:=λe=>by rw[e] at g;cases g
    rcases g4 b l j1 h with⟨rfl,rfl⟩|⟨rfl,rfl⟩|⟨d4,c0,g2,e2,h9⟩<;>rcases g4 d5 c6 j0 d7 with⟨rfl,rfl⟩|⟨rfl,rfl⟩|⟨l8,g3,e4,e5,l9⟩
    · rfl
    · exact(f3 p).elim
    · exact(h0 d5 c6 g3 e4 e5 p).elim
    · exact(f3 p.symm).elim
    · rfl
    · exact(f7 d5 c6 g3 e4 e5 p.symm).elim
    · exact(h0 b l c0 g2 e2 p.symm).elim
    · exact(f7 b l c0 g2 e2 p).elim
    · rw[h9] at g;exact a2.inj b d5 l c6 g e4 e2 e5 p
  · intro j d1 j7;refine x.keep j d1 λf2=>j7 ?_;rw[d9 j f2];exact f8
  · rintro j d1 ⟨b,l,b2,a3,d0⟩;rw[CO] at b2;by_cases i:b=(c.put B (.row tb' n 0 e t)).next
    · have i:b=c.next:=i;rw[i,Mu.BD] at a3;cases a3;have:=d9 j (x.own j d1 ⟨q,a0,by rw[r3];rfl,d8,d0⟩);rw[this];exact f8
    · rw[if_neg i,Eb] at b2;rw[Mu.Bs _ _ (show b≠c.next from i)] at a3;by_cases s:b=B
      · subst s;rw[a4] at a3;cases a3;rw[←d0];exact f8
      · rw[if_neg s] at b2;exact⟨b,l,b2,a3,d0⟩
  · have i:b≠c.next:=λe=>by subst e;omega
    have s:b≠B:=λb5=>by rw[b5,a4] at em;cases em
    exact⟨by rw[Mu.Bs _ _ i];exact em,by rw[CO,if_neg (show¬b=(c.put B (.row tb' n 0 e t)).next from i),Eb,if_neg s]⟩
 rcases k5 (μ.sub ρ k) e0 e9 l5 l4 gs (show LC (μ.sub ρ k) (.func e1) e9 by cases e9<;>exact g8) (i5 μ _ h1) with⟨f,e7,j2⟩|⟨l,F',m3,l7,m0,e7,_⟩
 case inr=>subst e7;exact g8.elim
 refine .inl ⟨f,e7,?_⟩;rcases j2 with⟨v,a5,a1,av,u,o,w,c9,b2,a3⟩|⟨o,w⟩
 · obtain⟨b9,c1,f0,a,b4,b,e6⟩:=h4 v a5 a1 av u w c9 b2 a3;exact .inl ⟨v,a5,b9,c1,f0,o,a,b4,b,e6⟩
 · refine .inr ⟨o,w.mono λe a5 p=>?_⟩;obtain⟨v,a1,av,u,c9,b2,a3,d0,i1⟩:=p;obtain⟨b9,c1,f0,a,b4,b,e6⟩:=h4 v a5 a1 av u b2 a3 d0 i1;exact⟨v,b9,c1,f0,c9,a,b4,b,e6⟩
end Go.Den
noncomputable section
namespace Go.Den
open Go.RowKit
set_option maxRecDepth 100000
abbrev H2:TypeId:=207
abbrev Ku:TypeId:=285
def sL:List (List UInt8):=[[105,102],[105,102,100,101,102],[105,102,110,100,101,102],[101,108,105,102],[101,108,115,101],[101,110,100,105,102],[105,110,99,108,117,100,101],[100,101,102,105,110,101],[117,110,100,101,102],[108,105,110,101],[101,114,114,111,114],[112,114,97,103,109,97]]
def KX:Nat→List (List UInt8)→Es
 |_,[]=>[]
 |i,w::ws=>(S w,.int .i64 (.ofNat (2+i)),i)::KX (i+1) ws
def Hw:Es:=KX 0 sL
def kdF(s:List UInt8):Nat→List (List UInt8)→Nat
 |_,[]=>14
 |i,w::ws=>if s=w then 2+i else kdF s (i+1) ws
def II(s:List UInt8):Nat:=kdF s 0 sL
theorem Z0:∀x∈Hw,plain x.1=true∧plain x.2.1=true:=by
 have a:∀ws b,∀x∈KX b ws,plain x.1=true∧plain x.2.1=true:=by
  intro ws;induction ws with
  |nil=>intro b x c;cases c
  |cons d ws f=>
   intro b x c;rcases List.mem_cons.1 c with rfl|c
   · exact⟨rfl,rfl⟩
   · exact f _ _ c
 exact a sL 0
theorem Ajo(q:P)(l c:Nat)(h:H):BO env 100 (.map q) (.str l c) true h=(Option.rec none (λp=>CW env 3 true (Cb (.str l c) p.1 0) h) (EJ (h.at q)):Option (U×H)):=by kernel_rfl
theorem se(h:H):CW env 3 true (some none) h=some (.tuple [.int .i64 (.ofNat 0),.bool false],h):=by kernel_rfl
theorem Aep(v:U)(a b:Nat)(h:H):CW env 3 true (some (some (v,a,b))) h=some (.tuple [v,.bool true],h):=by kernel_rfl
theorem gy(b:List UInt8):∀(ws:List (List UInt8))(c j:Nat),(∃a d,Cb (S b) (KX c ws) j=some (some (.int .i64 (.ofNat (kdF b c ws)),a,d)))∨(Cb (S b) (KX c ws) j=some none∧kdF b c ws=14)
 |[],_,_=>.inr ⟨rfl,rfl⟩
 |f::ws,c,j=>by
  have g:=gy b ws (c+1) (Nat.add j 1);have e:Cb (S b) (KX c (f::ws)) j=(Bool.rec (Cb (S b) (KX (c+1) ws) (Nat.add j 1)) (some (some (.int .i64 (.ofNat (2+c)),c,j))) (CL b.length (enc b) f.length (enc f)):Option MW):=rfl;rw[e,En];unfold kdF;by_cases h:b=f
  · rw[decide_eq_true h,if_pos h];exact .inl ⟨_,_,rfl⟩
  · rw[decide_eq_false h,if_neg h];exact g
theorem oZ{q:P}{b:H}(c:List UInt8)(d:b.at q=.map Hw 12){f:KV}(g:f (.int .i64 (.ofNat (II c))) b):oK (BO env 100 (.map q) (.str c.length (enc c)) true b) λh i=>ext 0 h λj=>Ar .i64 j λk=>ext 1 h λl=>Be l λm=>V m (f (.int .i64 k) i) (f (.int .i64 (Int.ofNat 14)) i):=by
 rw[Ajo,d];show oK (CW env 3 true (Cb (S c) (KX 0 sL) 0) b) _;unfold II at g;rcases gy c sL 0 0 with⟨a,n,e⟩|⟨e,o⟩
 · rw[e,Aep,Ad,Dw,AG,Dt,AL];exact By rfl g
 · rw[e,se,Ad,Dw,AG,Dt,AL];rw[o] at g;exact AR rfl g
theorem iA{b:P}{o:Nat}{K:Prop}:one (.ptr b o) K=K:=rfl
def jv:List U:=[.int .u32 (.ofNat 0),.int .i32 (.ofNat 0),.int .u32 (.ofNat 0),.GH]
def YR(q:P):List U:=[.int .u32 (.ofNat 1),.int .i32 (.ofNat 0),.int .u32 (.ofNat 0),.map q]
def Aoi:List (Ob FT):=vL G .dead++[.row (Ai jv 0 .e) 4 0 H2 true]
def Oa:H:=I1 Aoi
def S4:Tm:=Ai (YR (CH (G+2))) 0 .e
theorem doD:W1 (.func 152) [.ptr (CH G) 0,.func (.func 153) [] [.ptr Oa.next 0]] (Oa.new (rowOf Ku [.ptr (CH G) 0])) (λ_ a=>a.at (CH G)=.row S4 4 0 H2 true∧a.at Oa.next=rowOf Ku [.ptr (CH G) 0]∧a.at (CH (G+2))=.map Hw 12):=by
 have e:calls 100000 100000 (.func 152) [.ptr (CH G) 0,.func (.func 153) [] [.ptr Oa.next 0]] (Oa.new (rowOf Ku [.ptr (CH G) 0])) (λ_ a=>a.at (CH G)=.row S4 4 0 H2 true∧a.at Oa.next=rowOf Ku [.ptr (CH G) 0]∧a.at (CH (G+2))=.map Hw 12)
  =((.row S4 4 0 H2 true:Ob FT)=.row S4 4 0 H2 true∧(rowOf Ku [.ptr (CH G) 0]:Ob FT)=rowOf Ku [.ptr (CH G) 0]∧(.map Hw 12:Ob FT)=.map Hw 12):=by kernel_rfl
 exact Wv (Mk 100000 100000) (e.mpr ⟨rfl,rfl,rfl⟩)
theorem fY{a b q:P}{c:H}{tb:Tm}(d:List UInt8)(f:c.at a=rowOf Ku [.ptr b 0])(g:c.at b=.row tb 4 0 H2 true)(h:AD tb 3=.map q)(i:c.at q=.map Hw 12){j:KV}(k:j (.int .i64 (.ofNat (II d))) c):
 Z (.ptr a 0) c λl=>oK (Ag l c) λm n=>Ac 3 m λo=>Z o n λp=>oK (BO env 100 p (.str d.length (enc d)) true n) λr s=>ext 0 r λt=>Ar .i64 t λu=>ext 1 r λv=>Be v λw=>V w (j (.int .i64 u) s) (j (.int .i64 (Int.ofNat 14)) s):=by
 refine C6 (t:=Ai [.ptr b 0] 0 .e) (n:=1) (z:=0) (e:=Ku) (w:=true) f (by decide) ?_;rw[show AD (Ai [.ptr b 0] 0 .e) 0=.ptr b 0 by rw[Am];rfl];rw[Aj,Ad,Ae];refine C6 g (by decide) ?_;rw[show 0+3=3 from rfl,h];exact oZ d i k
theorem of_run{a:H}{b q:P}{c:Tm}(d:List UInt8)
 (f:W1 (.func 152) [.ptr b 0,.func (.func 153) [] [.ptr a.next 0]] (a.new (rowOf Ku [.ptr b 0])) (λ_ g=>g.at b=.row c 4 0 H2 true∧g.at a.next=rowOf Ku [.ptr b 0]∧g.at q=.map Hw 12)) (h:AD c 3=.map q) {i:KV}
 (j:∀g,g.at b=.row c 4 0 H2 true→g.at q=.map Hw 12→i (.int .i64 (.ofNat (II d))) g):W1 (.func 108) [.ptr b 0,S d] a i:=by
 refine oe (n:=1) AJ (Anu ?_);unfold Oe;rw[iA];refine BX ?_;have a0:(a.new (rowOf Ku [.ptr b 0])).at a.next=rowOf Ku [.ptr b 0]:=AS _ _;refine C6 (t:=Ai [.ptr b 0] 0 .e) (n:=1) (z:=0) (e:=Ku) (w:=true) a0 (by decide) ?_;rw[show AD (Ai [.ptr b 0] 0 .e) 0=.ptr b 0 by rw[Am];rfl];rw[Aj,Ad,Ae];refine Nw f λ_ g k=>?_;obtain⟨l,m,n⟩:=k;exact fY d m l (q:=q) h n (j g l n)
theorem tn:AD S4 3=.map (CH (G+2)):=by unfold S4;rw[Am];rfl
theorem kV(b:List UInt8):W1 (.func 108) [.ptr (CH G) 0,S b] Oa (λv c=>v=.int .i64 (.ofNat (II b))∧c.at (CH G)=.row S4 4 0 H2 true∧c.at (CH (G+2))=.map Hw 12):=
 of_run b doD tn λ_ a d=>⟨rfl,a,d⟩
theorem kJ:Oa.next=CH (G+1):=rfl
theorem Agx{a:P}(b:Oa.at a≠.dead):a=CH G:=by
 unfold Oa at b;rw[Ie] at b;unfold Aoi at b;have c:(vL G (.dead:Ob FT)).length=G:=List.length_replicate ..;by_cases e:a.nat<G
 · rw[vM,List.getElem?_append_left (by rw[c];exact e),List.getElem?_replicate,if_pos e] at b;exact absurd rfl b
 · by_cases d:a.nat=G
   · rw[←d,Tb]
   · rw[vM,List.getElem?_eq_none (by rw[List.length_append,c,List.length_singleton];omega)] at b;exact absurd rfl b
theorem Avs:Oa.at (CH G)=.row (Ai jv 0 .e) 4 0 H2 true:=by unfold Oa;rw[Ie,C5];rfl
theorem c4{l:List U}(a:l.length=4){t:Tm}{b:Nat}(hi:b<4):AD (Ai l 0 t) b=l.getD b .undef:=by rw[Am,if_pos ⟨Nat.zero_le _,by omega⟩,Nat.sub_zero]
theorem kP{a:H}{B:P}(b:List UInt8)(c:G≤B.nat)(d:AH a B H2 jv){f:KV}
 (g:f (.int .i64 (.ofNat (II b))) ((a.put B (.row (Ai (YR a.next) 0 .e) 4 0 H2 true)).new (.map Hw 12))):W1 (.func 108) [.ptr B 0,S b] a f:=by
 obtain⟨tb,d,h⟩:=d;have d:a.at B=.row tb 4 0 H2 true:=d;let ρ:P→P:=λi=>if i=CH G then B else i
 have k:∀{m j:Nat},m≠j→CH m≠CH j:=λ{m j} q e=>q (by rw[←C5 m,←C5 j,e]);have n:ρ (CH G)=B:=if_pos rfl;have o:∀m,m<G→ρ (CH m)=CH m:=λm hi=>if_neg (k (by omega));have p:Oa.next.nat=G+1:=by rw[kJ,C5]
 have sub:∀(μ:Mu),μ.sub ρ Oa (CH G)=μ B:=λμ=>by rw[Mu.sub_lt (by rw[p,C5];omega),n]
 refine qe (sargs:=[.ptr (CH G) 0,S b]) (ρ:=ρ) (B:=B) (b0:=CH G) (iq:=3) (r:=.int .i64 (.ofNat (II b))) (cs:=λm=>AD S4 m) (tb':=Ai (YR a.next) 0 .e) d Avs ?_ (by rw[p,C5];omega) n ?_ ?_ ?_ ?_ rfl Z0 (by decide) ?_ ?_ ?_ g
 · intro i r s;exact absurd (Agx s) r
 · intro t u;exact⟨o t u,by rw[p,C5];omega⟩
 · rintro μ w ⟨x,ws,_,⟨l,y,_⟩,_⟩;exact⟨l,y⟩
 · intro m hi μ v c f;have e:AD tb m=jv[m]'hi:=h m hi;rw[e] at c f;rw[c4 rfl hi]
   match m,hi with
   |0,_=>exact⟨c,rfl⟩
   |1,_=>exact⟨c,rfl⟩
   |2,_=>exact⟨c,rfl⟩
   |3,_=>exact⟨c,rfl⟩
 · rintro μ w ⟨x,ws,rfl,⟨l,y,k⟩,a,d,rfl,g,n⟩;exact⟨x,_,rfl,⟨l,by rw[sub];exact y,k⟩,a,d,rfl,g,n⟩
 · rw[c4 rfl (by decide)];rfl
 · intro m hi i μ r v s o c f;have c:VR r (AD S4 m) v:=c;unfold S4 at c;rw[c4 rfl hi] at c;rw[c4 rfl hi]
   match m,hi with
   |0,_=>exact⟨c,rfl⟩
   |1,_=>exact⟨c,rfl⟩
   |2,_=>exact⟨c,rfl⟩
   |3,_=>exact absurd rfl i
 · refine Nw (kV b) λv t u=>?_;obtain⟨h,w,x⟩:=u;exact⟨h,S4,CH (G+2),w,by rw[p,C5];omega,x,tn,λm _ _=>rfl⟩
theorem Bbs{a:H}{b q:P}(r:AH a b H2 (YR q)){c:KV}(d:c (.int .u32 (Int.ofNat 1)) a):W1 (.func 230) [.ptr b 0] a c:=by
 obtain⟨t,f,g⟩:=r;refine Alv ?_;refine By rfl ?_;have h:C1 (.Gf .u32) [.ptr b 0] a=some (.int .u32 (Int.ofNat 1),a):=by show(Option.rec none (λv=>Option.rec none (λn=>some (.int .u32 n,a)) (LD .u32 v)) (a.E4 b 0):Option (U×H))=_;rw[JY f (by show 0<4;decide),g 0 (by show 0<4;decide)];rfl
 rw[h,Ad];exact d
theorem Ben{a:H}{b q:P}(r:AH a b H2 (YR q)){c:KV}(d:c (.bool true) a):W1 (.func 198) [.ptr b 0] a c:=by refine Apa (n:=1) AJ (Bfv ?_);unfold QJ;rw[Aj,Ad,Ae];refine Bbs r ?_;rw[AG,DB];exact d
theorem qg{a:H}{b q:P}(c:List UInt8)(d:b.nat<a.next.nat)(f:q.nat<a.next.nat)(g:AH a b H2 (YR q))(h:a.at q=.map Hw 12){i:KV}
 (j:∀k,AP a k→i (.int .i64 (.ofNat (II c))) k):W1 (.func 108) [.ptr b 0,S c] a i:=by
 refine oe (n:=1) AJ (Anu ?_);unfold Oe;rw[iA];refine BX ?_;have a0:(a.new (rowOf Ku [.ptr b 0])).at a.next=rowOf Ku [.ptr b 0]:=AS _ _;have x:AP a (a.new (rowOf Ku [.ptr b 0])):=.new;generalize a.new (rowOf Ku [.ptr b 0])=k at a0 x ⊢;refine C6 (t:=Ai [.ptr b 0] 0 .e) (n:=1) (z:=0) (e:=Ku) (w:=true) a0 (by decide) ?_;rw[show AD (Ai [.ptr b 0] 0 .e) 0=.ptr b 0 by rw[Am];rfl];rw[Aj,Ad,Ae];have l:=g.ext x d;refine Aqh (n:=1) AJ (Bcd ?_);unfold Qv;rw[Aj,Ad,Ae];refine Ben l ?_;rw[AL];refine AR rfl ?_;obtain⟨tb,m,n⟩:=l;exact fY c a0 m (n 3 (by show 3<4;decide)) (by rw[x.2 q f];exact h) (j k x)
def Kn(h:H)(B A:P):Prop:=(G≤B.nat∧B.nat<h.next.nat)∧(AH h B H2 jv∨∃q,q≠A∧q.nat<h.next.nat∧AH h B H2 (YR q)∧h.at q=.map Hw 12)
theorem Kn.ext{h h':H}{B d:P}(n:Kn h B d)(x:AP h h'):Kn h' B d:=by
 obtain⟨⟨a,b⟩,c⟩:=n;refine⟨⟨a,vZ b x.1⟩,?_⟩;rcases c with c|⟨q,f,c,g,e⟩
 · exact .inl (c.ext x b)
 · exact .inr ⟨q,f,vZ c x.1,g.ext x b,by rw[x.2 q c];exact e⟩
theorem Kn.DV{X:P→Prop}{c d:H}{f g:P}(n:Kn c f g)(x:CE X c d)(h:¬X f)(i:∀q,q≠g→c.at q=.map Hw 12→¬X q):Kn d f g:=by
 obtain⟨⟨a,b⟩,j⟩:=n;refine⟨⟨a,vZ b x.1⟩,?_⟩;rcases j with j|⟨q,k,j,l,e⟩
 · exact .inl (j.of (x.2 _ b h))
 · exact .inr ⟨q,k,vZ j x.1,l.of (x.2 _ b h),by rw[x.2 q j (i q k e)];exact e⟩
theorem Bdx{b:H}{c d:P}(f:List UInt8)(n:Kn b c d)(g:d.nat<b.next.nat){h:KV}(i:∀k,CE (λl=>l=c) b k→Kn k c d→h (.int .i64 (.ofNat (II f))) k):W1 (.func 108) [.ptr c 0,S f] b h:=by
 have n0:=n;obtain⟨⟨a,m⟩,l⟩:=n;rcases l with l|⟨q,o,l,r,e⟩
 · refine kP f a l (i _ ⟨?_,λp s t=>?_⟩ ⟨⟨a,?_⟩,.inr ⟨b.next,λe=>by rw[←e] at g;exact Nat.lt_irrefl _ g,?_,⟨Ai (YR b.next) 0 .e,?_,λj u=>?_⟩,AS (b.put c _) _⟩⟩)
   · show b.next.nat≤(P.succ b.next).nat;rw[P.Ce];omega
   · rw[CY (show p.nat<(b.put c _).next.nat from s),AQ t]
   · show c.nat<(P.succ b.next).nat;rw[P.Ce];omega
   · show b.next.nat<(P.succ b.next).nat;rw[P.Ce];omega
   · rw[CY (show c.nat<(b.put c _).next.nat from m)];exact Bg _ _ _
   · rw[c4 rfl u,vM,List.getElem?_eq_getElem u];rfl
 · exact qg f m l r e λk x=>i k x.DV (n0.ext x)
theorem Agb{a:H}{b c d f g h:U}{i:KV}(j:∀k,AP a k→i (.bool true) k):W1 (.func 107) [.agg [.int .i64 (.ofNat 5),S [35],b,c,d,f,g,h]] a i:=by
 refine mq (n:=1) AJ (Alc ?_);unfold Nd;rw[CB];refine CA (λe=>by cases e) ?_;refine newRow (e:=Ci) (cs:=[.int .i64 (.ofNat 5),S [35],b,c,d,f,g,h]) rfl λl m n o=>?_;rw[Ae];refine o.Z (j:=0) (by show 0<8;decide) ?_;show Ar .i64 (.int .i64 (.ofNat 5)) _;rw[AG];refine Dm (λ_=>?_) (λe=>by cases e);rw[Ae];refine o.Z (j:=1) (by show 1<8;decide) ?_;show Bv (S [35]) _;rw[CR];have p:CL [(35:UInt8)].length (enc [35]) 1 35=true:=by rw[show enc [35]=35 by kernel_rfl];exact Y3 1 35
 rw[p];refine F7 (λe=>by cases e) (λ_=>?_);exact j _ m
def gK(a:List UInt8)(c0 b:List U):Prop:=(∃c d f g h i,c0=[.int .i64 (.ofNat 5),S [35],c,d,f,g,h,i])∧∃c d f g h i,b=[.int .i64 (.ofNat 1),S a,c,d,f,g,h,i]
theorem Abo{a:H}{v:U}{b c:P}{d:List (List U)}{c0 f:List U}{g:List UInt8}(h:CI 8 a v (c0::f::d))(i:gK g c0 f)(n:Kn a b c)(j:c.nat<a.next.nat){k:KV}(l:∀m,CE (λp=>p=b) a m→Kn m b c→k (.int .i64 (.ofNat (II g))) m):W1 (.func 83) [.ptr b 0,v] a k:=by
 obtain⟨⟨r,s,t,u,w,x,rfl⟩,y,f,a,b,c,k,rfl⟩:=i;refine w83 (n:=1) AJ (g83 ?_);unfold Rv;have m:0<([.int .i64 (.ofNat 5),S [35],r,s,t,u,w,x]::[.int .i64 (.ofNat 1),S g,y,f,a,b,c,k]::d).length:=by simp
 have p:1<([.int .i64 (.ofNat 5),S [35],r,s,t,u,w,x]::[.int .i64 (.ofNat 1),S g,y,f,a,b,c,k]::d).length:=by simp
 rw[h.len,DB,decide_eq_false (show¬([.int .i64 (.ofNat 5),S [35],r,s,t,u,w,x]::[.int .i64 (.ofNat 1),S g,y,f,a,b,c,k]::d).length=0 by simp)];refine F7 (λ_=>?_) (λe=>by cases e);refine(h.rd m).elem m λq o i _ a0=>?_;refine a0.A3 rfl ?_;refine Agb λi m=>?_;rw[AL];refine AR rfl ?_;rw[h.len,DB,decide_eq_false (show¬([.int .i64 (.ofNat 5),S [35],r,s,t,u,w,x]::[.int .i64 (.ofNat 1),S g,y,f,a,b,c,k]::d).length=1 by simp)];refine AR rfl ?_;have d:=h.ext m;refine(d.rd p).elem p λr s t _ u=>?_;have u:Dl i r s [.int .i64 (.ofNat 1),S g,y,f,a,b,c,k]:=u;rw[Ae];refine u.Z (j:=0) (by show 0<8;decide) ?_;show Ar .i64 (.int .i64 (.ofNat 1)) _;rw[AG];refine AR rfl ?_;rw[Aj,Ad,Ae];refine(d.rd p).elem p λq3 w x _ h=>?_;have h:Dl i q3 w [.int .i64 (.ofNat 1),S g,y,f,a,b,c,k]:=h;rw[Ae];refine h.Z (j:=1) (by show 1<8;decide) ?_;show Bv (S g) _;rw[CR];refine Bdx g (n.ext m) (vZ j m.1) λt r s=>?_;rw[AG];exact l t (m.DV.trans r) s
end Go.Den
