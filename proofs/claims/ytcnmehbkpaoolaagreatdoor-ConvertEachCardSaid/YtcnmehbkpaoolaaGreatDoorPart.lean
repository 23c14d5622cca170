/-
 Proof.
-/
import Derived.Test.YtcnmehbkpaoolaaGreatDoorDenQ
noncomputable section
namespace Go.Den
open Go.RowKit
def Mu.sub(μ:Mu)(ρ:P→P)(hs:H):Mu:=fun c=>if c.nat<hs.next.nat then μ (ρ c) else none
theorem Mu.sub_lt{μ:Mu}{ρ:P→P}{hs:H}{c:P}(h:c.nat<hs.next.nat):μ.sub ρ hs c=μ (ρ c):=if_pos h
theorem EsR.plain{μ μ':Mu}:∀{a:Es}{es:List MapEntry},(∀x∈a,Den.plain x.1=true∧Den.plain x.2.1=true)→EsR μ a es→EsR μ' a es
 |[],_,_,r=>r
 |e::_,_,hp,⟨x,xs,h0,h1,h2,h3,h4⟩=>⟨x,xs,h0,VR.plain _ _ (hp e (by simp)).1 h1,VR.plain _ _ (hp e (by simp)).2 h2,h3,EsR.plain (fun y hy=>hp y (by simp[hy])) h4⟩
theorem Ax5{Pr:Program}{G:Nat}{F:FuncId}{args sargs:List AV}{h hs:H}{k:KV}{r:AV}{ρ:P→P}{B b0:P}{tb ts tb':Tm}{n iq:Nat}{e:TypeId}{wh:Bool}{es:Es}{clock:Nat}{cs:Nat→AV}
 (hB:h.at B=.row tb n 0 e wh) (hs0:hs.at b0=.row ts n 0 e wh) (hsd:∀c,c≠b0→hs.at c≠.dead→c.nat<hs.next.nat∧∃f m,hs.at c=.ext f m∧h.at (ρ c)=.ext f m∧∀i,i<m→plain (f i)=true) (hb0:b0.nat<hs.next.nat) (hρ:ρ b0=B)
 (hG:∀g,g<G→ρ (pOf g)=pOf g∧(pOf g).nat<hs.next.nat)
 (hBl:∀(μ:Mu) vs,VRs μ args vs→∃l,μ B=some l)
 (hc:∀i,i<n→∀(μ:Mu) v,VR μ (Bh tb i) v→(Bh tb i).one=true→VR (μ.sub ρ hs) (Bh ts i) v∧(Bh ts i).one=true)
 (ha:∀(μ:Mu) vs,VRs μ args vs→VRs (μ.sub ρ hs) sargs vs)
 (hr:plain r=true) (hp:∀x∈es,plain x.1=true∧plain x.2.1=true) (hiq:iq<n)
 (hq':Bh tb' iq=.map h.next)
 (hback:∀i,i<n→i≠iq→∀(μ μ':Mu) v,Mu.le (μ.sub ρ hs) μ'→(∃v0,VR μ (Bh tb i) v0)→VR μ' (cs i) v→(cs i).one=true→VR μ (Bh tb' i) v∧(Bh tb' i).one=true)
 (hrun:SW Pr G (.func F) sargs hs fun v h'=>v=r∧∃ts' q,h'.at b0=.row ts' n 0 e wh∧hs.next.nat≤q.nat∧h'.at q=.map es clock∧Bh ts' iq=.map q∧∀i,i<n→i≠iq→Bh ts' i=cs i)
 (hk:k r ((h.put B (.row tb' n 0 e wh)).new (.map es clock))):SW Pr G (.func F) args h k:=fun μ w fn' vargs s gl hf hv=>by
 obtain⟨lB,hlB⟩:=hBl μ _ hv
 have hsubB:μ.sub ρ hs b0=some lB:=by rw[Mu.sub_lt hb0,hρ];exact hlB
 have hBn:B.nat<h.next.nat:=s.fresh _ _ hlB
 have obB:=s.ob B lB (by rw[hB];exact fun e=>nomatch e) hlB
 rw[hB] at obB
 have ss:Sim (μ.sub ρ hs) hs w:=by
  refine⟨fun b l hb=>?_,fun b hb=>?_,fun b l hb hl=>?_,fun b b' l l' h1 h2 hl hl' he=>?_⟩
  · rcases Nat.lt_or_ge b.nat hs.next.nat with h1|h1
    · exact h1
    · unfold Mu.sub at hb;rw[if_neg (by omega)] at hb;cases hb
  · by_cases hd:hs.at b=.dead
    · exact hd
    · have:=(hsd b (fun e=>by subst e;omega) hd).1;omega
  · by_cases eb:b=b0
    case neg=>
     obtain⟨e1,f,m,e2,e3,e4⟩:=hsd b eb hb
     rw[Mu.sub_lt e1] at hl
     have ob:=s.ob (ρ b) l (by rw[e3];exact fun e=>nomatch e) hl
     rw[e3] at ob
     rw[e2]
     obtain⟨cs',e',fz,k1,k2,k3,k4⟩:=ob
     refine⟨cs',e',fz,k1,k2,k3,fun i hi=>?_⟩
     obtain⟨v,hv1,hv2,hv3⟩:=k4 i hi
     exact⟨v,hv1,VR.plain _ _ (e4 i hi) hv2,hv3⟩
    subst eb
    rw[hsubB] at hl;cases hl
    rw[hs0]
    obtain⟨cs',fz,k1,k2,k3,k4⟩:=obB
    refine⟨cs',fz,k1,⟨k2.1,k2.2.1,fun i hi=>?_⟩,k3,k4⟩
    obtain⟨v,hv1,hv2,hv3⟩:=k2.2.2 i hi
    obtain⟨a1,a2⟩:=hc i hi μ v hv2 hv3
    exact⟨v,hv1,a1,a2⟩
  · have eb:b=b0:=by
     by_cases e:b=b0
     · exact e
     · obtain⟨_,f,m,e2,_⟩:=hsd b e (fun e'=>by rw[e'] at h1;cases h1)
       rw[e2] at h1;cases h1
    by_cases eb':b'=b0
    · rw[eb,eb']
    · obtain⟨e1,f,m,e2,e3,e4⟩:=hsd b' eb' h2
      rw[Mu.sub_lt e1] at hl'
      rw[eb,hsubB] at hl;cases hl
      have:=s.inj B (ρ b') lB l' (by rw[hB];rfl) (by rw[e3];exact fun e=>nomatch e) hlB hl' he
      rw[←this,hB] at e3;cases e3
 have gs:Fw (μ.sub ρ hs) G:=fun g hg=>by
  obtain⟨l,e1,e2⟩:=gl g hg
  obtain⟨e3,e4⟩:=hG g hg
  exact⟨l,by rw[Mu.sub_lt e4,e3];exact e1,e2⟩
 have key:∀v w' μ' av h',Sim μ' h' w'→Cr (μ.sub ρ hs) hs w μ' h' w'→VR μ' av v→(av=r∧∃ts' q,h'.at b0=.row ts' n 0 e wh∧hs.next.nat≤q.nat∧h'.at q=.map es clock∧Bh ts' iq=.map q∧∀i,i<n→i≠iq→Bh ts' i=cs i)→
  ∃μ2 av2 h2,Sim μ2 h2 w'∧Cr μ h w μ2 h2 w'∧VR μ2 av2 v∧k av2 h2:=by
  rintro v w' μ' av h' s' x hav ⟨rfl,ts',q,r1,r2,r3,r4,r5⟩
  have rb:=s'.ob b0 lB (by rw[r1];exact fun e=>nomatch e) (x.le _ _ hsubB)
  rw[r1] at rb
  obtain⟨cs',fz,k1,k2,k3,k4⟩:=rb
  obtain⟨vq,hvq1,hvq2,_⟩:=k2.2.2 iq hiq
  rw[r4] at hvq2
  obtain⟨lq,hlq,hvq⟩:=hvq2
  have hbq:q≠b0:=fun e=>by subst e;omega
  have rq:=s'.ob q lq (by rw[r3];exact fun e=>nomatch e) hlq
  rw[r3] at rq
  have hqB:lq.blk≠lB.blk:=fun e=>hbq (s'.inj q b0 lq lB (by rw[r3];rfl) (by rw[r1];exact fun e=>nomatch e) hlq (x.le _ _ hsubB) e)
  have hn:μ h.next=none:=s.none (Nat.le_refl _)
  have hle:Mu.le μ (μ.set h.next lq):=Mu.Aac hn
  have hsucc:((h.put B (.row tb' n 0 e wh)).new (.map es clock)).next.nat=h.next.nat+1:=P.Dn _
  have hBne:B≠h.next:=fun e=>by rw[e] at hBn;omega
  have own_s:∀j,Own (μ.sub ρ hs) hs j→j=lB.blk:=fun j hj=>by
   obtain⟨b,l,h1,h2,h3⟩:=hj
   have eb:b=b0:=by
    by_cases e:b=b0
    · exact e
    · obtain⟨_,f,m,e2,_⟩:=hsd b e (fun e'=>by rw[e'] at h1;cases h1)
      rw[e2] at h1;cases h1
   subst eb
   rw[hsubB] at h2;cases h2
   exact h3.symm
  have ownB:Own μ h lB.blk:=⟨B,lB,by rw[hB];rfl,hlB,rfl⟩
  have old:∀c l,c≠B→h.at c≠.dead→μ c=some l→l.blk≠lB.blk:=fun c l hcB hc hl he=>hcB (s.inj B c lB l (by rw[hB];rfl) hc hlB hl he.symm).symm
  have hq_old:∀c l,c≠B→h.at c≠.dead→μ c=some l→lq.blk≠l.blk:=fun c l hcB hc hl he=>by
   have hlt:=(s.ob c l hc hl).lt hc
   have:=own_s lq.blk (x.own _ (by rw[he];exact hlt) ⟨q,lq,by rw[r3];rfl,hlq,rfl⟩)
   exact hqB this
  refine⟨μ.set h.next lq,av,_,⟨?_,?_,?_,?_⟩,⟨hle,x.size,?_,?_,⟨by rw[hsucc];omega,fun c hc em=>?_⟩,x.os,x.tape,x.output⟩,VR.plain _ _ hr hav,hk⟩
  · intro c l hc
    rw[hsucc]
    by_cases ec:c=h.next
    · subst ec;omega
    · rw[Mu.Bx _ _ ec] at hc;have:=s.fresh c l hc;omega
  · intro c hc
    rw[hsucc] at hc
    rw[Fk,if_neg (fun e=>by subst e;exact absurd hc (by show¬h.next.nat+1≤h.next.nat;omega)),Jc,if_neg (fun e=>by subst e;omega)]
    exact s.dead c (by omega)
  · intro c l hc hl
    rw[Fk] at hc ⊢
    by_cases ec:c=(h.put B (.row tb' n 0 e wh)).next
    · rw[if_pos ec]
      have ec:c=h.next:=ec
      subst ec
      rw[Mu.Cc] at hl;cases hl
      obtain⟨xs,m1,m2⟩:=rq
      exact⟨xs,m1,m2.plain hp⟩
    · rw[if_neg ec] at hc ⊢
      rw[Mu.Bx _ _ (show c≠h.next from ec)] at hl
      rw[Jc] at hc ⊢
      by_cases eB:c=B
      · rw[if_pos eB]
        subst eB
        rw[hlB] at hl;cases hl
        refine⟨cs',fz,k1,⟨k2.1,k2.2.1,fun i hi=>?_⟩,k3,k4⟩
        obtain⟨v,hv1,hv2,hv3⟩:=k2.2.2 i hi
        by_cases ei:i=iq
        · subst ei
          rw[hq']
          rw[hvq1] at hv1;cases hv1
          exact⟨_,hvq1,⟨lq,Mu.Cc _ _ _,hvq⟩,rfl⟩
        · rw[r5 i hi ei] at hv2 hv3
          obtain⟨_,_,_,k2',_⟩:=obB
          obtain⟨v0,_,hv0,_⟩:=k2'.2.2 i hi
          obtain⟨a1,a2⟩:=hback i hi ei μ μ' v x.le ⟨v0,hv0⟩ hv2 hv3
          exact⟨v,hv1,VR.mono hle _ _ a1,a2⟩
      · rw[if_neg eB] at hc ⊢
        have r0:=s.ob c l hc hl
        refine(r0.mono hle).world (x.keep _ (r0.lt hc) fun ho=>?_)
        exact old c l eB hc hl (own_s _ ho)
  · have cell:∀c l,((h.put B (.row tb' n 0 e wh)).new (.map es clock)).at c≠.dead→(μ.set h.next lq) c=some l→(c=h.next∧l=lq)∨(c=B∧l=lB)∨(c≠h.next∧c≠B∧h.at c≠.dead∧μ c=some l∧((h.put B (.row tb' n 0 e wh)).new (.map es clock)).at c=h.at c):=fun c l hc hl=>by
     by_cases ec:c=h.next
     · left;refine⟨ec,?_⟩;subst ec;rw[Mu.Cc] at hl;cases hl;rfl
     · rw[Mu.Bx _ _ ec] at hl
       by_cases eB:c=B
       · right;left;refine⟨eB,?_⟩;subst eB;rw[hlB] at hl;cases hl;rfl
       · right;right
         have e1:((h.put B (.row tb' n 0 e wh)).new (.map es clock)).at c=h.at c:=by rw[Fk,if_neg (show¬c=(h.put B (.row tb' n 0 e wh)).next from ec),Jc,if_neg eB]
         rw[e1] at hc
         exact⟨ec,eB,hc,hl,e1⟩
    intro c c' l l' hc hc' hl hl' he
    have hcd:((h.put B (.row tb' n 0 e wh)).new (.map es clock)).at c≠.dead:=fun e=>by rw[e] at hc;cases hc
    rcases cell c l hcd hl with⟨rfl,rfl⟩|⟨rfl,rfl⟩|⟨a1,a2,a3,a4,a5⟩<;>rcases cell c' l' hc' hl' with⟨rfl,rfl⟩|⟨rfl,rfl⟩|⟨b1,b2,b3,b4,b5⟩
    · rfl
    · exact(hqB he).elim
    · exact(hq_old c' l' b2 b3 b4 he).elim
    · exact(hqB he.symm).elim
    · rfl
    · exact(old c' l' b2 b3 b4 he.symm).elim
    · exact(hq_old c l a2 a3 a4 he.symm).elim
    · exact(old c l a2 a3 a4 he).elim
    · rw[a5] at hc
      exact s.inj c c' l l' hc b3 a4 b4 he
  · intro j hj hno
    refine x.keep j hj fun ho=>hno ?_
    rw[own_s j ho];exact ownB
  · rintro j hj ⟨c,l,h4,h5,h6⟩
    rw[Fk] at h4
    by_cases ec:c=(h.put B (.row tb' n 0 e wh)).next
    · have ec:c=h.next:=ec
      rw[ec,Mu.Cc] at h5;cases h5
      have:=own_s j (x.own j hj ⟨q,lq,by rw[r3];rfl,hlq,h6⟩)
      rw[this];exact ownB
    · rw[if_neg ec,Jc] at h4
      rw[Mu.Bx _ _ (show c≠h.next from ec)] at h5
      by_cases eB:c=B
      · subst eB
        rw[hlB] at h5;cases h5
        rw[←h6];exact ownB
      · rw[if_neg eB] at h4
        exact⟨c,l,h4,h5,h6⟩
  · have ec:c≠h.next:=fun e=>by subst e;omega
    have eB:c≠B:=fun e'=>by rw[e',hlB] at em;cases em
    exact⟨by rw[Mu.Bx _ _ ec];exact em,by rw[Fk,if_neg (show¬c=(h.put B (.row tb' n 0 e wh)).next from ec),Jc,if_neg eB]⟩
 rcases hrun (μ.sub ρ hs) w fn' vargs ss gs (show FnR (μ.sub ρ hs) (.func F) fn' by cases fn'<;>exact hf) (ha μ _ hv) with⟨f,e0,hh⟩|⟨l,F',tmps,as,bd,e0,_⟩
 case inr=>subst e0;exact hf.elim
 refine .inl ⟨f,e0,?_⟩
 rcases hh with⟨v,w',μ',av,h',h1,h2,h3,h4,h5⟩|⟨h1,h2⟩
 · obtain⟨μ2,av2,h2',a,b',c,d⟩:=key v w' μ' av h' h2 h3 h4 h5
   exact .inl ⟨v,w',μ2,av2,h2',h1,a,b',c,d⟩
 · refine .inr ⟨h1,h2.mono fun e w' he=>?_⟩
   obtain⟨v,μ',av,h',h3,h4,h5,h6,h7⟩:=he
   obtain⟨μ2,av2,h2',a,b',c,d⟩:=key v w' μ' av h' h4 h5 h6 h7
   exact⟨v,μ2,av2,h2',h3,a,b',c,d⟩
end Go.Den
