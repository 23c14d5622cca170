/-
 Proof.
-/
import Derived.Test.YtmgalljhidgnoaaGreatDoorTak
import Derived.Test.YtmgalljhidgnoaaGreatDoorLpj
open Int renaming ofNat → vJ
open Nat renaming le_refl → vE, lt_of_lt_of_le → vZ
open List renaming drop_zero → yY, take_length → xu, length_append → o7
namespace Go.Den
open Go.RowKit
set_option maxRecDepth 100000
section
variable{hS h:H}{p:PW}{vl:U}{Lc:List (List U)}{XS:List (List (List U))}{T D:List (List U)}{C:Option (List U)}{st:Bool}{fu:Nat}{L:Cn}
variable{nm wn JN:List UInt8}{vs vc m1 m2 m3 m4 IS:U}{dl a0 b0:Int}{R:List (List U)}
def Stp(hS:H)(Lc:List (List U))(j:Nat):Prop:=Lc.length≤j∨∃a b c d c0 f g h,∃i:j<Lc.length,Lc[j]=[a,b,c,d]∧CI 8 hS a (c0::f::g)∧gK h c0 f∧II h≠0
theorem BJ.gA{b:H}{c d:P}{lo:Nat}{v:U}{R:List (List U)}(g:BJ Ci 8 lo h v R)(n:Kn h c d)(f:CE (λi=>i=c) h b):BJ Ci 8 lo b v R:=
 g.frame f.1 λi j _ t k z l a=>f.2 i j λe=>by
  rw[e] at a;rcases n.2 with r|⟨_,_,_,r,_⟩
  · exact r.Fy (by decide) _ _ _ _ a
  · exact r.Fy (by decide) _ _ _ _ a
theorem CQ.out{a c:H→Prop}(d:CQ hS h p (p.file nm wn vs dl vc m1 m2 m3 m4 JN a0 b0 IS) C T D st fu L)(f:Dq hS p vl Lc XS){j:Nat}(g:Stp hS Lc j){lo:Nat}{v:U}(b:BJ Ci 8 lo h v R)(i:∀k,CQ hS k p (p.file nm wn vs dl vc m1 m2 m3 m4 JN a0 b0 IS) C T D st fu L→h.next.nat≤k.next.nat→BJ Ci 8 lo k v R→c k):
 Bz vl λl=>AM (λm=>gate true (Ba (vJ j) (vJ l)) (Bo (vJ j) λn=>A7 4 n vl λo=>Ac 0 o λr=>Z r h λs=>W1 (.func 83) [.ptr p.B 0,s] h λt u=>Ar .i64 t λw=>m (AN w (vJ 0)) u) (m false h)) λx y=>V x (a y) (c y):=by
 rw[f.sl.len,Cr];rcases g with q|⟨k,A',B',O',c0,l,n,o,r,s,t,m,u⟩
 · rw[decide_eq_false (by omega)];refine Dm (λe=>by cases e) (λ_=>?_);exact AR rfl (i h d (vE _) b)
 · rw[decide_eq_true r];refine Dm (λ_=>?_) (λe=>by cases e);refine d.row f r s .refl ?_;refine Abo (d.tok f r s t) m d.kn (vZ f.nA d.n) λw a c=>?_;rw[AG,DB,decide_eq_false u];exact AR rfl (i w (d.gA f a c) a.1 (b.gA d.kn a))
def WR(hS:H)(p:PW)(a:List U)(C:Option (List U))(T D:List (List U))(fu:Nat)(L:Cn)(wn:List UInt8)(vs:U)(dl:Int)(lo:Nat)(v:U)(R:List (List U))(Q:List (List U)→List (List U)→Bool→Nat→Prop):Prop:=
 ∀(h:H)(K:KV),CQ hS h p a C T D false fu L→BJ Ci 8 lo h v R→
  (∀d f g i j T' DG k l,CE (λc=>c=p.pF) h d→AH d p.pF HJ [.int .i64 (vJ l)]→CI 8 d f T'→(∀c∈T',c.length=8)→CI 4 d g DG→CI 1 d i (JX j)→(∀q o n z b,i=.slice q o n z b→h.next.nat≤q.nat)→(∀q o n z b,f=.slice q o n z b→h.next.nat≤q.nat)→j.length≤R.length→(∀x∈j,x.length≤1000000)→Q T' DG k l→K (.agg [f,g,.bool k,i]) d)→
  W1 (.func 16) [.ptr p.pt 0,v,.agg [S wn,vs,.int .i64 dl],.ptr p.pF 0] h K
theorem TA(c:CQ hS h p (p.file nm wn vs dl vc m1 m2 m3 m4 JN a0 b0 IS) C T D false fu L)(d:Dq hS p vl Lc XS){j a n:Nat}(f:Stp hS Lc j){lo:Nat}{v:U}(b:BJ Ci 8 lo h v R){skp:Bool}{b1:Nat}(g:R.length≤1000)(i:b1≤99000)(k:DI L b1)(l:T.length≤100000)(m:D.length≤100000){Q:List (List U)→List (List U)→Bool→Nat→Prop}(s:∀T' DG f u,Q T' DG f u→T'.length≤100000∧DG.length≤100000){w:KV}
 (x:∀(y:H)(g:KV),CQ hS y p (p.file nm wn vs dl vc m1 m2 m3 m4 JN a0 b0 IS) C T D false fu L→g (.bool skp) y→W1 (.func 85) [.ptr p.pX 0] y g)
 (h0:(skp=true∨R=[])→∀y,CQ hS y p (p.file nm wn vs dl vc m1 m2 m3 m4 JN a0 b0 IS) C T D false fu L→(HN W1 w n).a1 (.ptr p.pX 0) vl (.ptr p.B 0) (vJ j) y)
 (i:skp=false→R≠[]→WR hS p (p.file nm wn vs dl vc m1 m2 m3 m4 JN a0 b0 IS) C T D fu L wn vs dl lo v R Q)
 (l:skp=false→R≠[]→∀y T' DG f u L',Q T' DG f u→CQ hS y p (p.file nm wn vs dl vc m1 m2 m3 m4 JN a0 b0 IS) C (T++T') (D++DG) f u L'→(∃m,m≤b1+R.length∧DI L' m)→(HN W1 w n).a1 (.ptr p.pX 0) vl (.ptr p.B 0) (vJ j) y):
 (HN W1 w (n+1)).a2 (.ptr p.pX 0) vl (.ptr p.B 0) (vJ j) v (vJ a) h:=by
 refine Abn ?_;unfold Tk;refine c.out d f b λy w3 _ w=>?_;refine x y _ w3 ?_;rw[AL];have c:∀{K:Nat→Prop},K R.length→Bz v K:=λx=>by rw[w.n.len];exact x
 refine DR (b:=decide (0<R.length)) (λg x=>c (by rw[show Ba (vJ 0) (vJ R.length)=decide (0<R.length) from Cr _ _];exact x)) ?_;refine Bp (λe=>?_) (λe=>?_)
 case _=>
  have g:skp=false:=by
   cases skp with
   |true=>cases e
   |false=>rfl
  have c:R≠[]:=λq=>by rw[q] at e;subst g;cases e
  have X3:=w3.rX;obtain⟨vt,x,K3,a1,a2⟩:=w3.rK;have a3:=w3.n;rw[Aj,Ad,Ae];refine X3.Z (j:=0) (by show 0<14;decide) ?_;rw[Aj,Ad,Ae];refine X3.Z (j:=0) (by show 0<14;decide) ?_;show oK (Ag (.ptr p.pK 0) y) _;rw[Aj,Ad,Ae,Ae];refine K3.Z (j:=8) (by show 8<16;decide) ?_;rw[Aj,Ad,Ae];refine X3.Z (j:=0) (by show 0<14;decide) ?_;rw[Aj,Ad,Ae];refine X3.Z (j:=0) (by show 0<14;decide) ?_;show oK (Ag (.ptr p.pK 0) y) _;rw[Aj,Ad,Ae,Ae];refine K3.Z (j:=5) (by show 5<16;decide) ?_;rw[Aj,Ad,Ae];refine X3.Z (j:=0) (by show 0<14;decide) ?_;show oK (Ag (.ptr p.pK 0) y) _;rw[Aj,Ad,Ae];refine K3.Z (j:=6) (by show 6<16;decide) ?_;rw[Aj,Ad,Ae];refine X3.A3 (o:=2) (ds:=[S wn,vs,.int .i64 dl]) rfl rfl (by simp) ?_;rw[Aj,Ad,Ae];refine X3.Z (j:=0) (by show 0<14;decide) ?_;show oK (Ag (.ptr p.pK 0) y) _;rw[Aj,Ad,Ae];refine K3.Z (j:=7) (by show 7<16;decide) ?_;show W1 (.func 16) [.ptr p.pt 0,v,.agg [S wn,vs,.int .i64 dl],.ptr p.pF 0] y _;refine i g c y _ w3 w λa4 a5 a6 a7 a8 T' DG f u a9 b2 b3 b4 b5 b6 b7 b8 b9 c0 q=>?_;have m4:=a9.1;have i:∀{P':P}{e:TypeId}{cs:List U},AH y P' e cs→P'.nat<y.next.nat→P'≠p.pF→AH a4 P' e cs:=λr w a6=>r.of (a9.2 _ w a6);have a7:=vZ d.nX a3;have a8:=vZ d.nK a3;have b9:=vZ d.nA a3;have c1:=vZ d.nF a3;have X4:=i X3 a7 d.XF;have K4:=i K3 a8 d.KF;have A4:Ct a4 p.pA L:=by unfold Ct;rw[a9.2 _ b9 d.FA.symm];exact w3.mA
  have i:∀{e:TypeId},HJ≠e→∀c1 t m z a3,y.at c1=.row t m z e a3→c1≠p.pF:=λ{e} a7 c1 t m z a3 a q=>w3.rF.Fy a7 t m z a3 (by rw[←q];exact a);have a8:BJ Ci 8 hS.next.nat a4 vt T:=a1.frame m4 λc1 w _ t m z a3 a=>a9.2 c1 w (i (by decide) c1 t m z a3 a);have b9:BJ CC 4 hS.next.nat a4 x D:=a2.frame m4 λc1 w _ t m z a3 a=>a9.2 c1 w (i (by decide) c1 t m z a3 a);have i:∀q o n z b,x=.slice q o n z b→q.nat<y.next.nat:=λq o n z b e=>by
   rcases a2 with⟨c2,_⟩|⟨c3,t,m,a3,c2,_,c4,_⟩
   · rw[c2] at e;cases e
   · rw[c2] at e;cases e;exact c4
  have c5:∀q o n z b,vt=.slice q o n z b→q.nat<y.next.nat:=λq o n z b e=>by
   rcases a1 with⟨c2,_⟩|⟨c3,t,m,a3,c2,_,c4,_⟩
   · rw[c2] at e;cases e
   · rw[c2] at e;cases e;exact c4
  have c5:jC vt:=a1.n.sl.elim (λe=>.inr (.inr (.inr (.inl e)))) λe=>.inr (.inr (.inr (.inr (.inl e))));refine X4.Z (j:=0) (by show 0<14;decide) (Cv (X4.Z (j:=0) (by show 0<14;decide) (Cv (K4.Z (j:=8) (by show 8<16;decide) ?_))));show BE vt vt _;refine C2 c5 (X4.Z (j:=0) (by show 0<14;decide) (Cv ?_));have c6:=s T' DG f u q;refine Ajg (b0:=b1) (pT:=p.pT) (pt:=p.pt) (pF:=p.pF) (pS:=p.pS) (w1:=p.w1) (w2:=p.w2) (w3:=p.w3) (w4:=D9) (w5:=ET) (vt:=vt) (vs:=p.vn) (va:=p.va) (dp:=p.dp) (st:=false) b6 c0 (by omega) (λq o n z b e=>?_) b9 (by omega) b5 (by omega) K4 (by omega) A4 (by omega) (by omega) k λs c6 L' f5 K5 D5 A5 b6=>?_
  · have c4:=b7 q o n z b e;refine⟨λc2=>by rw[c2] at c4;omega,λc2=>by rw[c2] at c4;omega,λk c0 b5 b7 c2=>?_⟩;have:=i _ _ _ _ _ c2;omega
  have c7:=f5.1;have c8:∀{P':P}{e:TypeId}{cs:List U},AH a4 P' e cs→CC≠e→∀o n z b,x≠.slice P' o n z b:=λ{P' e cs} r a7 o n z b c2=>by
   rcases b9 with⟨c9,_⟩|⟨c3,t,m,a3,c9,_,_,c4,_⟩
   · rw[c9] at c2;cases c2
   · rw[c9] at c2;cases c2;exact r.Fy (Ne.symm a7) _ _ _ _ c4
  have d0:∀{P':P}{e:TypeId}{cs:List U},AH a4 P' e cs→P'.nat<a4.next.nat→CC≠e→P'≠p.pA→P'≠p.pK→AH s P' e cs:=λr w a7 l d1=>r.of (f5.2 _ w λq=>by
   rcases q with q|q|⟨o,n,z,b,q⟩
   · exact l q
   · exact d1 q
   · exact c8 r a7 o n z b q)
  have X5:=d0 X4 (by omega) (by decide) d.XA d.XK;have F5:=d0 b2 (by omega) (by decide) d.FA d.KF.symm;have d1:∀{e:TypeId},CC≠e→NK≠e→∀c1 t m z a3,c1.nat<a4.next.nat→a4.at c1=.row t m z e a3→s.at c1=a4.at c1:=λ{e} a7 b2 c1 t m z a3 w a=>f5.2 c1 w λq=>by
   rcases q with q|q|⟨o,n,z,b,q⟩
   · rw[q] at a;unfold Ct at A4;rw[A4] at a;cases a
   · rw[q] at a;exact K4.Fy b2 _ _ _ _ a
   · rcases b9 with⟨c9,_⟩|⟨c3,d0,b2,w2,c9,_,_,c4,_⟩
     · rw[c9] at q;cases q
     · rw[c9] at q;cases q;rw[c4] at a;simp only[Ob.row.injEq] at a;exact a7 a.2.2.2.1
  have d2:BJ Ci 8 hS.next.nat s vt T:=a8.frame c7 λc1 w _ t m z a3 a=>d1 (by decide) (by decide) c1 t m z a3 w a;refine X5.Z (j:=0) (by show 0<14;decide) (Cv (X5.Z (j:=0) (by show 0<14;decide) (Cv (K5.Z (j:=8) (by show 8<16;decide) ?_))));show BE vt vt _;refine C2 c5 ?_;show oK (AB env .append [30,30] [vt,a5] s) _;have a8:CI 8 s a5 T':=b3.DV f5 λq o n z b e c2=>by
   have c4:=b8 q o n z b e;rcases c2 with c2|c2|⟨k,c0,b5,b7,c2⟩
   · rw[c2] at c4;omega
   · rw[c2] at c4;omega
   · have:=i _ _ _ _ _ c2;omega
  obtain⟨k,i,c5,a5,b3,f6⟩:=Xy (e:=Ci) (lo:=hS.next.nat) d2 (JJ a8) b4 Yv (Nx (by omega)) (by omega);rw[SS,c5,Ad];have g6:∀{P':P}{e:TypeId}{cs:List U},AH s P' e cs→P'.nat<s.next.nat→Ci≠e→AH i P' e cs:=λ{P' e cs} r w a7=>r.of (f6 _ w λo n z b c2=>by
   rcases d2 with⟨c9,_⟩|⟨c3,t,m,a3,c9,_,_,c4,_⟩
   · rw[c9] at c2;cases c2
   · rw[c9] at c2;cases c2;exact r.Fy (Ne.symm a7) _ _ _ _ c4)
  have X6:=g6 X5 (by omega) (by decide);have K6:=g6 K5 (by omega) (by decide);have F6:=g6 F5 (by omega) (by decide);have b8:∀{e:TypeId},Ci≠e→∀c1 t m z a3,c1.nat<s.next.nat→s.at c1=.row t m z e a3→i.at c1=s.at c1:=λ{e} a7 c1 t m z a3 w a=>f6 c1 w λo n z b c2=>by
   rcases d2 with⟨c9,_⟩|⟨c3,d0,b2,w2,c9,_,_,c4,_⟩
   · rw[c9] at c2;cases c2
   · rw[c9] at c2;cases c2;rw[c4] at a;simp only[Ob.row.injEq] at a;exact a7 a.2.2.2.1
  have D6:BJ CC 4 hS.next.nat i c6 (D++DG):=D5.frame b3 λc1 w _ t m z a3 a=>b8 (by decide) c1 t m z a3 w a;have A6:Ct i p.pA L':=by
   unfold Ct;unfold Ct at A5;rw[f6 _ (by omega) λo n z b c2=>by
    rcases d2 with⟨c9,_⟩|⟨c3,d0,b2,w2,c9,_,_,c4,_⟩
    · rw[c9] at c2;cases c2
    · rw[c9] at c2;cases c2;rw[A5] at c4;cases c4]
   exact A5
  refine X6.Z (j:=0) (by show 0<14;decide) (Cv ?_);show oK (Ag (.ptr p.pK 0) i) _;rw[Aj,Ad,Ae,Ae];refine K6.BC (j:=8) (cs':=p.cells k c6 (false||f)) (by show 8<16;decide) a5.one rfl λb5 b7 f7 K7=>?_
  -- what the words' table and the conditions are
  have c0:Kn a4 p.B p.pA:=w3.kn.DV a9 d.FB.symm λq _ e c2=>by rw[c2] at e;exact w3.rF.K8 e
  have a8:∀o n z b,x≠.slice p.B o n z b:=by
   rcases c0.2 with r|⟨_,_,_,r,_⟩
   · exact c8 r (by decide)
   · exact c8 r (by decide)
  have x:Kn s p.B p.pA:=c0.DV f5 (λq=>by
   rcases q with q|q|⟨o,n,z,b,q⟩
   · exact d.BA q
   · exact d.KB q.symm
   · exact a8 o n z b q) λq b4 e c2=>by
   rcases c2 with c2|c2|⟨o,n,z,b,c2⟩
   · exact b4 c2
   · rw[c2] at e;exact K4.K8 e
   · rcases b9 with⟨c9,_⟩|⟨c3,d0,b2,w2,c9,_,_,c4,_⟩
     · rw[c9] at c2;cases c2
     · rw[c9] at c2;cases c2;rw[c4] at e;cases e
  have c5:CE (λc1=>∃o n z b,vt=.slice c1 o n z b) s i:=⟨b3,λc1 w a6=>f6 c1 w λo n z b e=>a6 ⟨o,n,z,b,e⟩⟩;have c8:Kn i p.B p.pA:=x.DV c5 (λ⟨o,n,z,b,c2⟩=>by
   rcases d2 with⟨c9,_⟩|⟨c3,d0,b2,w2,c9,_,_,c4,_⟩
   · rw[c9] at c2;cases c2
   · rw[c9] at c2;cases c2;rcases x.2 with r|⟨_,_,_,r,_⟩
     · exact r.Fy (by decide) _ _ _ _ c4
     · exact r.Fy (by decide) _ _ _ _ c4) λq _ e ⟨o,n,z,b,c2⟩=>by
   rcases d2 with⟨c9,_⟩|⟨c3,d0,b2,w2,c9,_,_,c4,_⟩
   · rw[c9] at c2;cases c2
   · rw[c9] at c2;cases c2;rw[c4] at e;cases e
  obtain⟨x,c0,a8⟩:=w3.cn;have b4:GI a4 x C:=a8.frame m4 λc1 t m z e a3 w a a7=>a9.2 c1 w λq=>by rw[q] at a;exact w3.rF.WT (by decide) (by decide) e a7 t m z a3 a
  have b9:GI s x C:=b4.frame c7 λc1 t m z e a3 w a a7=>d1 (λq=>by rw[←q] at a7;exact absurd a7 (by decide)) (λq=>by rw[←q] at a7;exact absurd a7 (by decide)) c1 t m z a3 w a;have s:GI i x C:=b9.frame b3 λc1 t m z e a3 w a a7=>b8 (λq=>by rw[←q] at a7;exact absurd a7 (by decide)) c1 t m z a3 w a;have i:CE (IW p hS) hS b5:=by
   refine w3.fr.trans ⟨by rw[b7];omega,λc1 w a6=>?_⟩;have m:c1≠p.pK:=λe=>a6 (.inl (.inr (.inl e)));rw[f7 c1 m,f6 c1 (by omega) λo n z b e=>?_,f5.2 c1 (by omega) λq=>?_,a9.2 c1 w λe=>a6 (.inl (.inr (.inr (.inl e))))]
   · rcases q with q|q|⟨o,n,z,b,q⟩
     · exact a6 (.inl (.inr (.inr (.inr (.inl q)))))
     · exact m q
     · rcases a2 with⟨c9,_⟩|⟨c3,d0,b2,w2,c9,w,_,a,_⟩
       · rw[c9] at q;cases q
       · rw[c9] at q;cases q;exact a6 (.inr w)
   · rcases a1 with⟨c9,_⟩|⟨c3,d0,b2,w2,c9,w,_,a,_⟩
     · rw[c9] at e;cases e
     · rw[c9] at e;cases e;exact a6 (.inr w)
  refine l g c b5 T' DG f u L' q ⟨i,X6.of (f7 _ d.XK),⟨k,c6,K7,a5.of b7 f7 (K6.Fy (by decide)),D6.of b7 f7 (K6.Fy (by decide))⟩,F6.of (f7 _ d.KF.symm),?_,c8.put b7 f7 d.KB.symm K6.K8,x,c0,s.of b7 f7 (K6.WT (by decide) (by decide))⟩ ⟨_,by omega,b6⟩;unfold Ct;rw[f7 _ d.KA.symm];exact A6
 case _=>
  refine h0 ?_ y w3;cases skp with
  |true=>exact .inl rfl
  |false=>refine .inr (List.eq_nil_of_length_eq_zero ?_);have:decide (0<R.length)=false:=e;have:=of_decide_eq_false this;omega
end
end Go.Den
noncomputable section
namespace Go.Den
open Go.RowKit
set_option maxRecDepth 100000
structure T2(h:H)(pN pM pF pt:P)(w0 w1 w2 vg:U)(sp:Bool)(L:Cn)(fu:Nat):Prop where
 run:AH h pN jI [.ptr pt 0,w0,w1,w2,.ptr pF 0,.map pM,vg,.bool sp]
 fuel:AH h pF HJ [.int .i64 (vJ fu)]
 used:Ct h pM L
 nN:pN.nat<h.next.nat
 nM:pM.nat<h.next.nat
 nF:pF.nat<h.next.nat
theorem T2.DV{a b:H}{c d f g:P}{h i j k:U}{l:Bool}{m:Cn}{n:Nat}{X:P→Prop}(r:T2 a c d f g h i j k l m n)(x:CE X a b)(o:¬X c)(p:¬X d)(q:¬X f):T2 b c d f g h i j k l m n:=by have s:b.at d=a.at d:=x.2 _ r.nM p;exact⟨r.run.of (x.2 _ r.nN o),r.fuel.of (x.2 _ r.nF q),by unfold Ct;rw[s];exact r.used,vZ r.nN x.1,vZ r.nM x.1,vZ r.nF x.1⟩
theorem T2.ext{h h':H}{pN a b c:P}{d f g i:U}{j:Bool}{L:Cn}{k:Nat}(r:T2 h pN a b c d f g i j L k)(x:AP h h'):T2 h' pN a b c d f g i j L k:=r.DV (X:=λ_=>False) x.DV id id id
structure bF(c:List U)(fl:List UInt8)(a b:Int):Prop where
 ex:∃(kd:Nat)(tx:List UInt8)(sp md:Bool),c=[.int .i64 (vJ kd),S tx,.bool sp,S fl,.int .i64 a,.int .i64 b,.bool md,.Af]
def RA(b:List UInt8)(a c:Int):List U:=[.int .i64 (vJ 18),S b,.int .i64 a,.int .i64 c]
section
variable{h:H}{pR pN pM pF pt pe:P}{w0 w1 w2:U}{L:Cn}{fu lo:Nat}{T O:List (List U)}{vo:U}{fl:List UInt8}{a b:Int}
theorem lu{c:List U}(d:bF c fl a b){f:KV}(g:∀i,AP h i→f (.agg [S fl,.int .i64 a,.int .i64 b]) i):W1 (.func 133) [.agg c] h f:=by obtain⟨j,k,l,m,rfl⟩:=d.ex;exact Baf (x:=⟨vJ j,k,l,fl,a,b,m,.Af,[]⟩) (.inl ⟨rfl,.inl rfl⟩) (Nat.zero_le _) λi x=>by rw[Ul rfl];exact g i x
theorem Ady(r:EF h pN pM pF pt pe w0 w1 w2 L fu){c:KV}(d:∀f g,CE (λi=>i=pN) h f→AH f pN jI [.ptr pt 0,w0,w1,w2,.ptr pF 0,.map pM,g,.bool false]→BJ CC 4 h.next.nat f g [RA fl a b]→c (.tuple []) f):W1 (.func 137) [.ptr pN 0,.int .i64 (vJ 18),.agg [S fl,.int .i64 a,.int .i64 b]] h c:=by refine Amk (n:=1) AJ (Bas ?_);unfold QN;rw[CB];refine CA (by simp) ?_;refine newRow (e:=45) (cs:=[S fl,.int .i64 a,.int .i64 b]) rfl λj k l m=>?_;have R1:=r.ext k;rw[Aj,Ad,Ae];refine R1.run.Z (j:=6) (by show 6<8;decide) ?_;refine m.A3 (o:=0) (ds:=[S fl,.int .i64 a,.int .i64 b]) rfl rfl (by simp) ?_;show oK (AF env (env.ty CC) [(0,(.int .i64 (vJ 18))),(1,.agg [.str fl.length (enc fl),.int .i64 a,.int .i64 b])] j) _;rw[dP,Ad,dO,Ad];have n:AP j (j.new (.row (Ai (RA fl a b) 0 Z52) 4 0 CC true)):=.new;have R2:=R1.ext n;refine R2.run.Z (j:=6) (by show 6<8;decide) ?_;show BE .Af .Af _;rw[UA];show oK (AB env .append [31,31] [.Af,_] _) _;rw[dj];have o:=k.1;have p:=n.1;refine VQ (sz:=4) (lo:=h.next.nat) (L:=[]) (ds:=RA fl a b) (.inl ⟨rfl,rfl⟩) rfl qQ (W2 (by simp)) (by omega) rfl rfl λq s t k3=>?_;rw[Aj,Ad,Ae];refine(R2.run.GD k3 R2.nN (by decide)).BC (j:=6) (cs':=[.ptr pt 0,w0,w1,w2,.ptr pF 0,.map pM,q,.bool false]) (by show 6<8;decide) t.one rfl λu v w x=>?_;have y:=k3.1;refine d u q ⟨by rw[v];omega,λi c f=>?_⟩ x (t.of v w ((R2.run.GD k3 R2.nN (by decide)).Fy (by decide)));rw[w i f,k3.2 i (by omega) (.inl c),n.2 i (by omega),k.2 i c]
theorem Aii(r:EF h pN pM pF pt pe w0 w1 w2 L 0){c:List U}(d:bF c fl a b){f:KV}(g:∀i j,CE (λc=>c=pF∨c=pN) h i→T2 i pN pM pF pt w0 w1 w2 j true L 0→BJ CC 4 h.next.nat i j [RA fl a b]→f (.bool false) i):W1 (.func 130) [.ptr pN 0,.int .i64 (vJ 1),.agg c] h f:=by
 have l8:c.length=8:=by obtain⟨k,l,m,n,rfl⟩:=d.ex;rfl
 refine oI (n:=2) AJ (Aqd ?_);unfold NF;rw[CB];refine CA (λe=>by rw[e] at l8;cases l8) ?_;refine newRow (e:=Ci) (cs:=c) rfl λo p s u=>?_;have R2:=r.ext p;rw[Aj,Ad,Ae];refine R2.run.Z (j:=4) (by show 4<8;decide) ?_;refine fP R2.fuel (by decide) λv w f3 r3=>?_;have R3:=R2.gH w f3 r3;rw[AL];refine By rfl ?_;have q3:AH v h.next Ci c:=u.of (f3 _ (u.ne R2.fuel (by decide)));refine q3.A3 (o:=0) (ds:=c) l8 (by rw[yY,xu]) (by omega) ?_;refine lu d λx y=>?_;have R4:=R3.ext y;refine Ady R4 λf j f5 r5 i=>?_;rw[Aj,Ad,Ae];refine r5.BC (j:=7) (cs':=[.ptr pt 0,w0,w1,w2,.ptr pF 0,.map pM,j,.bool true]) (by show 7<8;decide) rfl rfl λk l f6 r6=>?_;have m:=y.1;have n:=p.1;have o:=f5.1;refine gX ?_;unfold ND;rw[Aj,Ad,Ae];refine r6.Z (j:=7) (by show 7<8;decide) ?_;show Be (.bool true) _;rw[AL,show Bm true=false from rfl];have s:pF≠pN:=(R4.run.ne R4.fuel (by decide)).symm;have v:pM≠pN:=λe=>by have:=R4.used;rw[e] at this;exact R4.run.CT this
 have u:∀c,c.nat<x.next.nat→c≠pN→k.at c=x.at c:=λc d n=>by rw[f6 c n,f5.2 c d n]
 refine g k j ⟨by rw[l,show f.next=f.next from rfl];rw[w] at m;omega,λc d n=>?_⟩ ⟨r6,R4.fuel.of (u _ R4.nF s),?_,?_,?_,?_⟩ ?_
 · rw[u c (by rw[w] at m;omega) λe=>n (.inr e),y.2 c (by rw[w];omega),f3 c λe=>n (.inl e),p.2 c d]
 · unfold Ct;rw[u _ R4.nM v];exact R4.used
 · rw[l];exact vZ R4.nN o
 · rw[l];exact vZ R4.nM o
 · rw[l];exact vZ R4.nF o
 · have x:=i.of l f6 (r5.Fy (by decide));rcases x with e|⟨q,t,f,g,e,j,k,g3,s⟩
   · exact .inl e
   · exact .inr ⟨q,t,f,g,e,by rw[w] at m;omega,k,g3,s⟩
end
end Go.Den
namespace Go.Den
open Go.RowKit
set_option maxRecDepth 100000
section
variable{h:H}{pR pN pM pF pt pe:P}{w0 w1 w2:U}{L:Cn}{fu lo:Nat}{T O:List (List U)}{vo:U}{fl:List UInt8}{a b:Int}
theorem FV.pq{a:H}{b:P→Prop}(c:FV lo h pR pN T vo O)(x:CE b h a)(d:∀f,b f→(∃g n,h.at f=.map g n)∨∃e cs,AH h f e cs∧e≠Eo∧e≠Mn):FV lo a pR pN T vo O:=
 c.keep x.1 λf i ⟨t,j,z,e,k,l,m⟩=>x.2 f i λq=>by
  rcases d f q with⟨g,n,q⟩|⟨o,cs,q,p,r⟩
  · rw[q] at l;cases l
  · rcases m with m|m
    · exact q.Fy p t j z k (by rw[←m];exact l)
    · exact q.Fy r t j z k (by rw[←m];exact l)
theorem Ahc(r:EF h pN pM pF pt pe w0 w1 w2 L 0)(c:FV lo h pR pN T vo O){d:List U}(f:Gu d)(g:bF d fl a b){i:KV}(j:∀k l,CE (λd=>d=pF∨d=pN) h k→T2 k pN pM pF pt w0 w1 w2 l true L 0→FV lo k pR pN T vo O→BJ CC 4 h.next.nat k l [RA fl a b]→i (.tuple []) k):W1 (.func 93) [.ptr pR 0,.agg (d++[.Af])] h i:=by
 have m:(d++[U.Af]).length=9:=by rw[o7,f.l8];rfl
 refine w93 (n:=1) AJ (g93 ?_);unfold RO;rw[CB];refine CA (λe=>by rw[e] at m;cases m) ?_;refine newRow (e:=Eo) (cs:=d++[.Af]) rfl λn o p s=>?_;have R2:=r.ext o;have G2:=c.ext o;obtain⟨u,v,w,q3⟩:=G2.row;rw[Aj,Ad,Ae];refine v.Z (j:=1) (by show 1<4;decide) ?_;show Be (.bool true) _;rw[AL];refine F7 (λ_=>?_) (λe=>by cases e);rw[Aj,Ad,Ae];refine v.Z (j:=0) (by show 0<4;decide) ?_;rw[Ae];refine s.A3 (o:=0) (ds:=d) f.l8 (by rw[yY,List.take_left'];rfl) (by rw[f.l8];decide) ?_;show W1 (.func 130) [.ptr pN 0,.int .i64 (vJ 1),.agg d] n _;refine Aii R2 g λx l y R3 i=>?_;rw[AL];refine AR rfl ?_;have G3:FV lo x pR pN T vo O:=G2.pq y λd q=>.inr (by
  rcases q with q|q
  · exact⟨_,_,by rw[q];exact R2.fuel,by decide,by decide⟩
  · exact⟨_,_,by rw[q];exact R2.run,by decide,by decide⟩)
 refine j x l (o.DV.trans y) R3 G3 ?_;have k:=o.1;rcases i with e|⟨q,t,m,p,e,c,u,g3,w⟩
 · exact .inl e
 · exact .inr ⟨q,t,m,p,e,by omega,u,g3,w⟩
theorem Aff(r:EF h pN pM pF pt pe w0 w1 w2 L 0)(c:FV lo h pR pN T vo O)(d:O.length≤1000000)(f:DI L O.length){g:List U}(i:Gu g)(j:bF g fl a b){k:KV}(l:∀m n L',CE (λg=>ChG pF pM pR lo g∨g=pN) h m→T2 m pN pM pF pt w0 w1 w2 n true L' 0→DI L' (O.length+1)→FV lo m pR pN T vo O→BJ CC 4 h.next.nat m n [RA fl a b]→k (.tuple []) m):W1 (.func 71) [.ptr pR 0,.agg (g++[.Af])] h k:=
 ix r c d f i λ{o L'} p R4 s G4=>Ahc R4 G4 i j λm n u R' G' v=>by
  refine l m n L' ((p.weak λg q=>.inl q).trans (u.weak λg q=>q.elim (λq=>.inl (.inl q)) .inr)) R' s G' ?_;have w:=p.1;rcases v with e|⟨q,t,x,y,e,k,c,g3,d⟩
  · exact .inl e
  · exact .inr ⟨q,t,x,y,e,by omega,c,g3,d⟩
theorem dS(c:pR.nat<h.next.nat){d:List U}(f:Gu d)(g:bF d fl a b)(r:EF h pN pM pF pt pe w0 w1 w2 [] 0)(i:FV h.next.nat h pR pN (BG [d]).reverse .Af []){j:KV}
 (k:∀l m L',CE (λd=>d=pF∨d=pM∨d=pR∨d=pN) h l→T2 l pN pM pF pt w0 w1 w2 m true L' 0→FV h.next.nat l pR pN [] .Af []→DI L' 1→BJ CC 4 h.next.nat l m [RA fl a b]→j .Af l):W1 (.func 42) [.ptr pR 0] h j:=by
 refine w42 (n:=3) AJ (g42 ?_);unfold SC;refine cx ?_;unfold O6;obtain⟨p,s,u,q3⟩:=i.row;rw[Aj,Ad,Ae];refine s.Z (j:=2) (by show 2<4;decide) ?_;show Bz p _;rw[u.len,List.length_reverse,Gm,Cr];refine Dm (λ_=>?_) (λe=>by cases e);rw[Aj,Ad,Ae];refine s.Z (j:=0) (by show 0<4;decide) ?_;show oK (Ag (.ptr pN 0) h) _;rw[Aj,Ad,Ae];refine r.run.Z (j:=7) (by show 7<8;decide) ?_;show Be (.bool false) _;rw[AL];refine By rfl ?_;have v:(d++[U.Af]).length=9:=by rw[o7,f.l8];rfl
 refine c70 i (by show 0<1;decide) (by show 1≤1000000;decide) (it:=d++[.Af]) rfl v λw x=>?_;have y:=r.ext x;have c:=i.ext x;refine newRow (e:=Eo) (cs:=Fs++[.Af]) rfl λj l i r3=>?_;refine r3.CV (o:=0) (ds:=d++[.Af]) (cs':=d++[.Af]) v (by decide) (by show 0+9≤9;decide) (by rw[show(Fs++[U.Af]).drop (0+9)=[] from rfl];simp) λi j a0 a1=>?_;have a2:AP w i:=l.Gr (vE _) j a0;have j:=c.ext a2;have R4:=y.ext a2;obtain⟨p,s,u,q3⟩:=j.row;rw[Aj,Ad,Ae];refine s.Z (j:=2) (by show 2<4;decide) ?_;rw[Aj,Ad,Ae];refine s.Z (j:=2) (by show 2<4;decide) ?_;show Bz p _;rw[u.len];refine JK (by show 1≤1;decide) (by show 1≤1000000000;decide) ?_;show oK (slice3 env i 121 p none (some (Bf (.int .i64 (vJ ((BG [d]).reverse.length-1))))) none) _;refine u.Xz (by show 1≤1;decide) λl y a0 a3=>?_;rw[Aj,Ad,Ae];refine s.BC (j:=2) (cs':=[.ptr pN 0,.bool true,l,.Af]) (by show 2<4;decide) a3 rfl λa4 a5 f6 r6=>?_;have y:Hz Eo 9 i l []:=y;have a3:=j.nR;have fI:∀d,(∃t a3 z a6,i.at d=.row t a3 z Eo a6)→a4.at d=i.at d:=λd ⟨t,a3,z,a6,a⟩=>f6 d λe=>by subst e;obtain⟨i,a7,_⟩:=s;rw[a] at a7;cases a7
 have g6:FV h.next.nat a4 pR pN [] .Af []:=⟨⟨l,r6,y.frame (by rw[a5];exact vE _) λd _ t a3 z a6 a=>fI d ⟨t,a3,z,a6,a⟩,λq o n z b e=>by obtain⟨l,y,a8,a9,b0⟩:=a0 q o n z b e;exact q3 _ _ _ _ _ b0⟩,j.out.frame (by rw[a5];exact vE _) λd _ _ t a3 z a6 a=>fI d ⟨t,a3,z,a6,a⟩,by rw[a5];exact j.nR,by rw[a5];exact j.nl⟩;have R6:EF a4 pN pM pF pt pe w0 w1 w2 [] 0:=R4.keep (by rw[a5];exact vE _) λd _ _ no=>f6 d λe=>by subst e;obtain⟨i,a7,_⟩:=s;exact no _ _ _ _ a7
 have X6:CE (λd=>d=pR) h a4:=(x.trans a2).DV.trans ⟨by rw[a5];exact vE _,λd _ l=>f6 d l⟩;have y:AH a4 w.next Eo (d++[.Af]):=a1.of (f6 _ λe=>by have:=a1.ne s (by decide);exact this e);refine y.A3 (o:=0) (ds:=d++[.Af]) v (by rw[yY,xu]) (by omega) ?_;refine Aff R6 g6 (by show 0≤1000000;decide) .nil f g λi m L7 x R7 w g7 y=>?_;have v:=X6.1;have X7:CE (λd=>d=pF∨d=pM∨d=pR∨d=pN) h i:=⟨Nat.le_trans X6.1 x.1,λd f l=>by
  rw[x.2 d (vZ f X6.1) λq=>?_,X6.2 d f λe=>l (.inr (.inr (.inl e)))];rcases q with(q|q|q|q)|q
  · exact l (.inl q)
  · exact l (.inr (.inl q))
  · exact l (.inr (.inr (.inl q)))
  · omega
  · exact l (.inr (.inr (.inr q)))⟩
 obtain⟨p,s,u,q3⟩:=g7.row;refine cx ?_;unfold O6;rw[Aj,Ad,Ae];refine s.Z (j:=2) (by show 2<4;decide) ?_;show Bz p _;rw[u.len,Cr];refine Dm (λe=>by cases e) (λ_=>?_);refine AR rfl ?_;rw[Aj,Ad,Ae];refine s.Z (j:=3) (by show 3<4;decide) ?_;refine k i m L7 X7 R7 g7 w ?_;rcases y with e|⟨q,t,a3,a6,e,g,c,g3,j⟩
 · exact .inl e
 · exact .inr ⟨q,t,a3,a6,e,by omega,c,g3,j⟩
end
end Go.Den
