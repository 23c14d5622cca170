/-
 Proof.
-/
import Derived.Test.YtmgalljhidgnoaaGreatDoorLnt
namespace Go.Den
open Go.RowKit
set_option maxRecDepth 100000
section
variable{pK pT pt pF pS pA:P}{w1 w2 w3 w4 w5 vt vs va:U}{dp:Nat}{st sp:Bool}
theorem Vf{h0:H}{a b c d:U}{f:P}{g:List (List UInt8)}(h:CI 1 h0 b (JX g))(i:∀j∈g,j.length≤1000000)(k:g.length≤1000)(l:∀q o n z m,b=.slice q o n z m→¬q=pA)(p:AH h0 f M7 [c,d,.bool sp,b])(r:f.nat<h0.next.nat)(s:AH h0 pK NK (Mo pT w1 w2 w3 w4 w5 pt pF vt a vs va st pS pA dp))(t:pK.nat<h0.next.nat){L0:Cn}(u:Ct h0 pA L0){v:KV}{w:Nat}(y:w≤100000)
    (a:∀d L',CE (λj=>j=pA) h0 d→Ct d pA L'→DI L' (w+g.length)→v c d):
    ∀(n m:Nat){c:H}{d:Cn},g.length-m<n→m≤g.length→CE (λj=>j=pA) h0 c→Ct c pA d→DI d (w+m)→(ay W1 v n).a1 (.ptr pK 0) (.ptr f 0) b (Int.ofNat g.length) (Int.ofNat m) c
  |0,_,_,_,b,_,_,_,_=>absurd b (Nat.not_lt_zero _)
  |n+1,m,c,d,b,hi,x,v,w=>by
    refine Asn ?_;unfold XW;have b:pK≠pA:=λe=>by subst e;exact s.CT u
    have a0:f≠pA:=λe=>by subst e;exact p.CT u
    rw[Cr];refine Bp (λe=>?_) (λe=>?_)
    · have e:m<g.length:=of_decide_eq_true e;have f:m<(JX g).length:=by rw[Fc];exact e
      refine Cy ?_;refine((h.DV x l).rd f).elem f λq o _ _ a1=>?_;rw[KW e] at a1;refine a1.Z (j:=0) (by show 0<1;decide) ?_;show Bv (S g[m]) _;rw[CR,Aj,Ad,Ae];refine(s.of (x.2 _ t b)).Z (j:=14) (by show 14<16;decide) ?_;show oK (BO env 100 (.map pA) (.str g[m].length (enc g[m])) false c) _;have f:=r;refine v.add w (by omega) λb r a1 a2=>?_;refine Bx (by omega) (Vf h i k l p f s t u y a n (m+1) (by omega) e (x.trans ⟨by rw[r];exact Nat.le_refl _,λj _ b=>a1 j b⟩) a2 ?_);rw[←Nat.add_assoc];exact w.inc (i _ (List.getElem_mem e))
    · have e:m=g.length:=by have:=of_decide_eq_false e;omega
      subst e;rw[Ae];refine(p.of (x.2 _ r a0)).Z (j:=0) (by show 0<4;decide) ?_;exact a c d x v w
theorem Ajg{c:H}{d f g h:U}{i:List (List UInt8)}{j DG:List (List U)}{lo:Nat}(k:CI 1 c f (JX i))(l:∀m∈i,m.length≤1000000)(p:i.length≤1000)(r:∀q o n z b,f=.slice q o n z b→¬q=pA∧¬q=pK∧∀s u v w,d≠.slice q s u v w)(x:BJ CC 4 lo c d j)(y:lo≤c.next.nat)(a0:CI 4 c h DG)(a1:j.length+DG.length≤1000000)(a2:AH c pK NK (Mo pT w1 w2 w3 w4 w5 pt pF vt d vs va st pS pA dp))(a3:pK.nat<c.next.nat){L0:Cn}(a4:Ct c pA L0)(a5:pA.nat<c.next.nat){b0:Nat}(a6:b0≤100000)(a7:DI L0 b0){a8:KV}
 (m:∀a1 a9 L',CE (λb1=>b1=pA∨b1=pK∨∃o n z b,d=.slice b1 o n z b) c a1→AH a1 pK NK (Mo pT w1 w2 w3 w4 w5 pt pF vt a9 vs va (st||sp) pS pA dp)→BJ CC 4 lo a1 a9 (j++DG)→Ct a1 pA L'→DI L' (b0+i.length)→a8 g a1):W1 (.func 86) [.ptr pK 0,.agg [g,h,.bool sp,f]] c a8:=by
 have j:pK≠pA:=λe=>by subst e;exact a2.CT a4
 have a1:∀o n z b,d≠.slice pK o n z b:=λo n z b e=>by
  rcases x with⟨a8,_⟩|⟨q,t,a9,b2,a8,_,_,a,_⟩
  · rw[a8] at e;cases e
  · rw[a8] at e;cases e;exact a2.Fy (by decide) _ _ _ _ a
 have b3:∀o n z b,d≠.slice pA o n z b:=λo n z b e=>by
  rcases x with⟨a8,_⟩|⟨q,t,a9,b2,a8,_,_,a,_⟩
  · rw[a8] at e;cases e
  · rw[a8] at e;cases e;unfold Ct at a4;rw[a4] at a;cases a
 refine w86 (n:=i.length+2) AJ (g86 ?_);unfold Xc;rw[CB];refine CA (by simp) ?_;refine newRow (e:=M7) (cs:=[g,h,.bool sp,f]) rfl λb4 b5 b6 b7=>?_;have g:=a2.ext b5 a3;have b6:=x.ext b5;have a2:∀b1:P,b1.nat<c.next.nat→c.next≠b1:=λb1 b8 e=>by rw[←e] at b8;exact Nat.lt_irrefl _ b8
 have b9:∀o n z b,d≠.slice c.next o n z b:=λo n z b e=>by
  rcases x with⟨a8,_⟩|⟨q,t,a9,b2,a8,_,c0,_⟩
  · rw[a8] at e;cases e
  · rw[a8] at e;cases e;exact Nat.lt_irrefl _ c0
 rw[Aj,Ad,Ae,Ae];refine g.Z (j:=9) (by show 9<16;decide) ?_;rw[Ae];refine b7.Z (j:=1) (by show 1<4;decide) ?_;have x:=a0.ext b5;show oK (AB env .append [31,31] [d,h] b4) _;obtain⟨h,c0,a0,b4,c1,f3⟩:=Xy (lo:=lo) b6 (JJ x) x.VD Aob (ig (by omega)) (Nat.le_trans y b5.1);rw[iE,a0,Ad,Aj,Ad,Ae,Ae];have x:=g.of (f3 _ (by omega) a1);have r3:=b7.of (f3 _ (by omega) b9);refine x.BC (j:=9) (cs':=Mo pT w1 w2 w3 w4 w5 pt pF vt h vs va st pS pA dp) (by show 9<16;decide) b4.one rfl λy g c1 b6=>?_;have a0:=r3.of (c1 _ (a2 _ a3));have a1:=b4.of g c1 (x.Fy (by decide));rw[Aj,Ad,Ae,Ae];refine b6.Z (j:=12) (by show 12<16;decide) ?_;show Be (.bool st) _;rw[AL];refine G8 (b:=sp) (λx b7=>?_) ?_
 · rw[Ae];refine a0.Z (j:=2) (by show 2<4;decide) ?_;show Be (.bool sp) _;rw[AL];exact b7
 show oK (Ag (.ptr pK 0) y) _;rw[Aj,Ad,Ae,Ae];refine b6.BC (j:=12) (cs':=Mo pT w1 w2 w3 w4 w5 pt pF vt h vs va (st||sp) pS pA dp) (by show 12<16;decide) rfl rfl λx y f5 b9=>?_;have r5:=a0.of (f5 _ (a2 _ a3));have b4:=a1.of y f5 (b6.Fy (by decide));have b7:x.next.nat=c0.next.nat:=by rw[y,g]
 have X5:CE (λb1=>b1=pK∨∃o n z b,d=.slice b1 o n z b) c x:=⟨by omega,λb1 b8 g=>by have y:b1≠pK:=λe=>g (.inl e);rw[f5 b1 y,c1 b1 y,f3 b1 (by omega) λo n z b e=>g (.inr ⟨o,n,z,b,e⟩),b5.2 b1 b8]⟩;rw[Ae];refine r5.Z (j:=3) (by show 3<4;decide) ?_;show Bz f _;rw[k.len,Fc];have c:Ct x pA L0:=by unfold Ct;rw[X5.2 _ a5 λq=>q.elim (λe=>j e.symm) λ⟨o,n,z,b,e⟩=>b3 o n z b e];exact a4
 have d:CI 1 x f (JX i):=k.DV X5 λq o n z b e=>λa8=>a8.elim (λa8=>(r q o n z b e).2.1 a8) λ⟨s,u,v,w,a8⟩=>(r q o n z b e).2.2 s u v w a8;refine Vf d l p (λq o n z b e=>(r q o n z b e).1) r5 (by omega) b9 (by omega) c a6 (λy L' f6 f i=>m y h L' ⟨Nat.le_trans X5.1 f6.1,λb1 b8 g=>?_⟩ (b9.of (f6.2 _ (by omega) j)) ?_ f i) _ 0 (by omega) (Nat.zero_le _) .refl c a7
 · rw[f6.2 b1 (Nat.lt_of_lt_of_le b8 X5.1) λe=>g (.inl e),X5.2 b1 b8 λe=>g (.inr e)]
 · refine b4.frame f6.1 λb1 b8 _ t a9 z b2 e=>f6.2 b1 b8 λq=>?_;rw[q] at e;unfold Ct at c;rw[c] at e;cases e
end
end Go.Den
