/-
 Proof.
-/
import Derived.Test.YtmgalljhidgnoaaGreatDoorKna
namespace Go.Den
open Go.RowKit
theorem mf{Pr:Program}{G:Nat}{c4:FuncId}{c5 sargs:List U}{h hs:H}{d9:KV}{r:U}{ρ:P→P}{B b0:P}{tb ts:Tm}{n:Nat}{e:TypeId}{f2:Bool}
 (b3:h.at B=.row tb n 0 e f2) (g8:hs.at b0=.row ts n 0 e f2) (b8:∀b,b≠b0→hs.at b≠.dead→b.nat<hs.next.nat∧∃f a9,hs.at b=.ext f a9∧h.at (ρ b)=.ext f a9∧∀k,k<a9→plain (f k)=true) (g0:b0.nat<hs.next.nat) (g9:ρ b0=B)
 (f7:∀a5,a5<G→ρ (CH a5)=CH a5∧(CH a5).nat<hs.next.nat)
 (f6:∀(μ:Mu) vs,BN μ c5 vs→∃l,μ B=some l)
 (d:∀k,k<n→∀(μ:Mu) v,VR μ (AD tb k) v→(AD tb k).one=true→VR (μ.sub ρ hs) (AD ts k) v∧(AD ts k).one=true)
 (f8:∀(μ:Mu) vs,BN μ c5 vs→BN (μ.sub ρ hs) sargs vs)
 (g6:plain r=true)
 (g7:SW Pr G (.func c4) sargs hs λv _=>v=r)
 (g4:d9 r (h.put B .dead)):SW Pr G (.func c4) c5 h d9:=λμ c3 d0 h3 p f4 e4 e6=>by
 obtain⟨a0,a8⟩:=f6 μ _ e6;have d5:μ.sub ρ hs b0=some a0:=by rw[Mu.sub_lt g0,g9];exact a8
 have h8:B.nat<h.next.nat:=p.fresh _ _ a8;have e9:=p.ob B a0 (by rw[b3];exact λe=>nomatch e) a8;rw[b3] at e9;have h2:Bc (μ.sub ρ hs) hs c3:=by
  refine⟨λc l y=>?_,λc y=>?_,λc l y i=>?_,λc a3 l e0 g m i c2 a7=>?_⟩
  · rcases Nat.lt_or_ge c.nat hs.next.nat with g|g
    · exact g
    · unfold Mu.sub at y;rw[if_neg (by omega)] at y;cases y
  · by_cases e3:hs.at c=.dead
    · exact e3
    · have:=(b8 c (λe=>by subst e;omega) e3).1;omega
  · by_cases eb:c=b0
    case neg=>obtain⟨s,f,a9,t,u,c0⟩:=b8 c eb y;rw[Mu.sub_lt s] at i;have e8:=p.ob (ρ c) l (by rw[u];exact λe=>nomatch e) i;rw[u] at e8;rw[t];obtain⟨c6,a4,d1,k1,k2,k3,k4⟩:=e8;refine⟨c6,a4,d1,k1,k2,k3,λk hi=>?_⟩;obtain⟨v,d6,d7,d8⟩:=k4 k hi;exact⟨v,d6,VR.plain _ _ (c0 k hi) d7,d8⟩
    subst eb;rw[d5] at i;cases i;rw[g8];obtain⟨c6,d1,k1,k2,k3,k4⟩:=e9;refine⟨c6,d1,k1,⟨k2.1,k2.2.1,λk hi=>?_⟩,k3,k4⟩;obtain⟨v,d6,d7,d8⟩:=k2.2.2 k hi;obtain⟨b4,a2⟩:=d k hi μ v d7 d8;exact⟨v,d6,b4,a2⟩
  · have eb:c=b0:=by
     by_cases e:c=b0
     · exact e
     · obtain⟨_,f,a9,t,_⟩:=b8 c e (λa4=>by rw[a4] at g;cases g);rw[t] at g;cases g
    by_cases e2:a3=b0
    · rw[eb,e2]
    · obtain⟨s,f,a9,t,u,c0⟩:=b8 a3 e2 m;rw[Mu.sub_lt s] at c2;rw[eb,d5] at i;cases i;have:=p.inj B (ρ a3) a0 e0 (by rw[b3];rfl) (by rw[u];exact λe=>nomatch e) a8 c2 a7;rw[←this,b3] at u;cases u
 have gs:DE (μ.sub ρ hs) G:=λa5 e5=>by obtain⟨l,s,t⟩:=f4 a5 e5;obtain⟨u,c0⟩:=f7 a5 e5;exact⟨l,by rw[Mu.sub_lt c0,u];exact s,t⟩
 have e7:∀v o a1 av a6,Bc a1 a6 o→BF (μ.sub ρ hs) hs c3 a1 a6 o→VR a1 av v→av=r→
  ∃b1 b2 m,Bc b1 m o∧BF μ h c3 b1 m o∧VR b1 b2 v∧d9 b2 m:=by
  rintro v o a1 av a6 h9 x f9 rfl;have f0:∀j,Own (μ.sub ρ hs) hs j→j=a0.blk:=λj c1=>by
   obtain⟨c,l,g,m,b6⟩:=c1;have eb:c=b0:=by
    by_cases e:c=b0
    · exact e
    · obtain⟨_,f,a9,t,_⟩:=b8 c e (λa4=>by rw[a4] at g;cases g);rw[t] at g;cases g
   subst eb;rw[d5] at m;cases m;exact b6.symm
  have h1:Own μ h a0.blk:=⟨B,a0,by rw[b3];rfl,a8,rfl⟩;have h0:∀b l,b≠B→h.at b≠.dead→μ b=some l→l.blk≠a0.blk:=λb l g2 d i a7=>g2 (p.inj B b a0 l (by rw[b3];rfl) d a8 i a7.symm).symm;have b9:∀b,(h.put B .dead).at b≠.dead→b≠B∧h.at b≠.dead∧(h.put B .dead).at b=h.at b:=λb d=>by
   by_cases c9:b=B
   · rw[Eb,if_pos c9] at d;exact absurd rfl d
   · have s:(h.put B .dead).at b=h.at b:=by rw[Eb,if_neg c9]
     rw[s] at d;exact⟨c9,d,s⟩
  refine⟨μ,av,h.put B .dead,⟨λc l y=>p.fresh c l y,λb d=>?_,λb l d i=>?_,λb e1 l e0 d g1 i c2 a7=>?_⟩,⟨λ_ _ q=>q,x.size,λj c1 g5=>x.keep j c1 λd4=>g5 (by rw[f0 j d4];exact h1),?_,⟨Nat.le_refl _,λb d em=>⟨em,?_⟩⟩,x.os,x.tape,x.output⟩,VR.plain _ _ g6 f9,g4⟩
  · rw[Eb];split
    · rfl
    · exact p.dead b d
  · obtain⟨b4,a2,b5⟩:=b9 b d;rw[b5];have f1:=p.ob b l a2 i;exact f1.world (x.keep _ (f1.lt a2) λd4=>h0 b l b4 a2 i (f0 _ d4))
  · obtain⟨b4,a2,b5⟩:=b9 b (λe=>by rw[e] at d;cases d);obtain⟨h5,f3,h6⟩:=b9 e1 g1;rw[b5] at d;exact p.inj b e1 l e0 d f3 i c2 a7
  · rintro j c1 ⟨b,l,w,b7,d3⟩;obtain⟨b4,a2,b5⟩:=b9 b (λe=>by rw[e] at w;cases w);rw[b5] at w;exact⟨b,l,w,b7,d3⟩
  · rw[Eb,if_neg (λa4=>by rw[a4,a8] at em;cases em)]
 rcases g7 (μ.sub ρ hs) c3 d0 h3 h2 gs (show LC (μ.sub ρ hs) (.func c4) d0 by cases d0<;>exact e4) (f8 μ _ e6) with⟨f,c8,g3⟩|⟨l,F',i0,h4,h7,c8,_⟩
 case inr=>subst c8;exact e4.elim
 refine .inl ⟨f,c8,?_⟩;rcases g3 with⟨v,o,a1,av,a6,g,m,b6,w,b7⟩|⟨g,m⟩
 · obtain⟨b1,b2,d2,a,a3,b,c7⟩:=e7 v o a1 av a6 m b6 w b7;exact .inl ⟨v,o,b1,b2,d2,g,a,a3,b,c7⟩
 · refine .inr ⟨g,m.mono λe o a7=>?_⟩;obtain⟨v,a1,av,a6,b6,w,b7,d3,f5⟩:=a7;obtain⟨b1,b2,d2,a,a3,b,c7⟩:=e7 v o a1 av a6 w b7 d3 f5;exact⟨v,b1,b2,d2,b6,a,a3,b,c7⟩
end Go.Den
