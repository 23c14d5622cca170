/-
 Proof.
-/
import Derived.Test.YtmgalljhidgnoaaGreatDoorKna
import Derived.Test.YtmgalljhidgnoaaGreatDoorLpx
open Nat renaming lt_of_lt_of_le → vZ, le_refl → vE
noncomputable section
namespace Go.Den
open Go.RowKit
set_option maxRecDepth 100000
structure PW where
 pX:P
 pK:P
 pT:P
 pt:P
 pe:P
 pF:P
 pS:P
 pA:P
 B:P
 w1:U
 w2:U
 w3:U
 vn:U
 va:U
 dp:Nat
def PW.cells(p:PW)(a b:U)(c:Bool):List U:=Mo p.pT p.w1 p.w2 p.w3 D9 ET p.pt p.pF a b p.vn p.va c p.pS p.pA p.dp
def PW.file(p:PW)(c d:List UInt8)(f:U)(g:Int)(h i j k l:U)(m:List UInt8)(a b:Int)(n:U):List U:=[.ptr p.pK 0,S c,S d,f,.int .i64 g,h,i,j,k,l,S m,.int .i64 a,.int .i64 b,n]
def IW(p:PW)(a:H)(b:P):Prop:=(b=p.pX∨b=p.pK∨b=p.pF∨b=p.pA∨b=p.B)∨a.next.nat≤b.nat
structure Dq(hS:H)(p:PW)(vl:U)(Lc:List (List U))(XS:List (List (List U))):Prop where
 tb:AH hS p.pt 145 [.map p.pe]
 em:hS.at p.pe=.map [] 0
 sl:CI 4 hS vl Lc
 ls:LnS hS Lc XS
 lv:∀q o n z t,vl=.slice q o n z t→¬IW p hS q
 lt:∀i (h:i<Lc.length) q o n z t,(Lc[i])[0]? =some (.slice q o n z t)→¬IW p hS q
 rX:∃cs,AH hS p.pX PL cs
 rK:∃cs,AH hS p.pK NK cs
 rF:∃cs,AH hS p.pF HJ cs
 mA:∃L,Ct hS p.pA L
 kB:∃cs,AH hS p.B H2 cs
 nX:p.pX.nat<hS.next.nat
 nK:p.pK.nat<hS.next.nat
 nF:p.pF.nat<hS.next.nat
 nA:p.pA.nat<hS.next.nat
 nB:p.B.nat<hS.next.nat
 nt:p.pt.nat<hS.next.nat
 ne:p.pe.nat<hS.next.nat
 eA:p.pe≠p.pA
section
variable{hS h:H}{p:PW}{vl:U}{Lc:List (List U)}{XS:List (List (List U))}
theorem Dq.XK(s:Dq hS p vl Lc XS):p.pX≠p.pK:=by obtain⟨_,a⟩:=s.rX;obtain⟨_,b⟩:=s.rK;exact a.ne b (by decide)
theorem Dq.XF(s:Dq hS p vl Lc XS):p.pX≠p.pF:=by obtain⟨_,a⟩:=s.rX;obtain⟨_,b⟩:=s.rF;exact a.ne b (by decide)
theorem Dq.XB(s:Dq hS p vl Lc XS):p.pX≠p.B:=by obtain⟨_,a⟩:=s.rX;obtain⟨_,b⟩:=s.kB;exact a.ne b (by decide)
theorem Dq.KF(s:Dq hS p vl Lc XS):p.pK≠p.pF:=by obtain⟨_,a⟩:=s.rK;obtain⟨_,b⟩:=s.rF;exact a.ne b (by decide)
theorem Dq.KB(s:Dq hS p vl Lc XS):p.pK≠p.B:=by obtain⟨_,a⟩:=s.rK;obtain⟨_,b⟩:=s.kB;exact a.ne b (by decide)
theorem Dq.FB(s:Dq hS p vl Lc XS):p.pF≠p.B:=by obtain⟨_,a⟩:=s.rF;obtain⟨_,b⟩:=s.kB;exact a.ne b (by decide)
theorem Dq.XA(s:Dq hS p vl Lc XS):p.pX≠p.pA:=λe=>by obtain⟨_,a⟩:=s.rX;obtain⟨_,b⟩:=s.mA;rw[e] at a;exact a.CT b
theorem Dq.KA(s:Dq hS p vl Lc XS):p.pK≠p.pA:=λe=>by obtain⟨_,a⟩:=s.rK;obtain⟨_,b⟩:=s.mA;rw[e] at a;exact a.CT b
theorem Dq.FA(s:Dq hS p vl Lc XS):p.pF≠p.pA:=λe=>by obtain⟨_,a⟩:=s.rF;obtain⟨_,b⟩:=s.mA;rw[e] at a;exact a.CT b
theorem Dq.BA(s:Dq hS p vl Lc XS):p.B≠p.pA:=λe=>by obtain⟨_,a⟩:=s.kB;obtain⟨_,b⟩:=s.mA;rw[e] at a;exact a.CT b
theorem IW.not{a:P}(b:a.nat<hS.next.nat)(c:a≠p.pX)(d:a≠p.pK)(f:a≠p.pF)(g:a≠p.pA)(h:a≠p.B):¬IW p hS a:=λq=>by
 rcases q with(q|q|q|q|q)|q
 · exact c q
 · exact d q
 · exact f q
 · exact g q
 · exact h q
 · omega
theorem Dq.chT(s:Dq hS p vl Lc XS):¬IW p hS p.pt:=by
 obtain⟨_,a⟩:=s.rX;obtain⟨_,b⟩:=s.rK;obtain⟨_,c⟩:=s.rF;obtain⟨_,d⟩:=s.mA;obtain⟨_,e⟩:=s.kB;refine IW.not s.nt (s.tb.ne a (by decide)) (s.tb.ne b (by decide)) (s.tb.ne c (by decide)) (λq=>?_) (s.tb.ne e (by decide))
 · have:=s.tb;rw[q] at this;exact this.CT d
theorem Dq.chE(s:Dq hS p vl Lc XS):¬IW p hS p.pe:=by
 obtain⟨_,a⟩:=s.rX;obtain⟨_,b⟩:=s.rK;obtain⟨_,c⟩:=s.rF;obtain⟨_,e⟩:=s.kB;refine IW.not s.ne (λq=>?_) (λq=>?_) (λq=>?_) s.eA (λq=>?_)
 · have:=s.em;rw[q] at this;exact a.CT this
 · have:=s.em;rw[q] at this;exact b.CT this
 · have:=s.em;rw[q] at this;exact c.CT this
 · have:=s.em;rw[q] at this;exact e.CT this
abbrev eG:TypeId:=163
abbrev du:TypeId:=161
def GI(h:H)(a:U):Option (List U)→Prop
 |none=>a=.Af∨∃q o z b,a=.slice q o 0 z b
 |some c=>∃q o b t d z f g,a=.slice q o 1 1 b∧h.at q=.row t d z du f∧o<d∧AD t o=.ptr g 0∧q.nat<h.next.nat∧AH h g eG c∧g.nat<h.next.nat
theorem GI.frame{h h':H}{a:U}{d:Option (List U)}(r:GI h a d)(f:h.next.nat≤h'.next.nat)(g:∀c t i z e j,c.nat<h.next.nat→h.at c=.row t i z e j→(e=du∨e=eG)→h'.at c=h.at c):GI h' a d:=by
 cases d with
 |none=>exact r
 |some c=>obtain⟨q,o,b,t,i,z,j,k,l,m,n,p,s,u,v⟩:=r;refine⟨q,o,b,t,i,z,j,k,l,by rw[g q t i z du j s m (.inl rfl)];exact m,n,p,vZ s f,?_,vZ v f⟩;obtain⟨w,x,y⟩:=u;exact⟨w,by rw[g k w _ _ eG _ v x (.inr rfl)];exact x,y⟩
theorem GI.ext{h h':H}{a:U}{b:Option (List U)}(r:GI h a b)(x:AP h h'):GI h' a b:=r.frame x.1 λc _ _ _ _ _ d _ _=>x.2 c d
theorem GI.of{h h':H}{q:P}{b:U}{C:Option (List U)}(r:GI h b C)(d:h'.next=h.next)(f:∀c,c≠q→h'.at c=h.at c)(g:∀e,e=du∨e=eG→∀t i z w,h.at q≠.row t i z e w):GI h' b C:=
 r.frame (by rw[d];exact vE _) λc t i z e w _ a j=>f c λk=>g e j t i z w (by rw[←k];exact a)
theorem GI.GD{h b:H}{c:U}{d:Option (List U)}{f:TypeId}{lo:Nat}(r:GI h c d)(x:Ft f lo h b)(g:f≠du)(i:f≠eG):GI b c d:=
 r.frame x.1 λj t k z e l m a n=>x.2 j m (.inr λo p s u v=>by
  rw[a] at v;simp only[Ob.row.injEq] at v;rcases n with q|q
  · exact g (by rw[←v.2.2.2.1];exact q)
  · exact i (by rw[←v.2.2.2.1];exact q))
theorem AH.WT{h:H}{q:P}{b:TypeId}{cs:List U}(r:AH h q b cs)(c:b≠du)(d:b≠eG):∀e,e=du∨e=eG→∀t f z g,h.at q≠.row t f z e g:=λe i t f z g a=>by
 obtain⟨j,k,_⟩:=r;rw[k] at a;simp only[Ob.row.injEq] at a;rcases i with q|q
 · exact c (by rw[a.2.2.2.1];exact q)
 · exact d (by rw[a.2.2.2.1];exact q)
structure CQ(hS h:H)(p:PW)(X:List U)(C:Option (List U))(T D:List (List U))(st:Bool)(fu:Nat)(L:Cn):Prop where
 fr:CE (IW p hS) hS h
 rX:AH h p.pX PL X
 rK:∃vt vd,AH h p.pK NK (p.cells vt vd st)∧BJ Ci 8 hS.next.nat h vt T∧BJ CC 4 hS.next.nat h vd D
 rF:AH h p.pF HJ [.int .i64 (Int.ofNat fu)]
 mA:Ct h p.pA L
 kn:Kn h p.B p.pA
 cn:∃vc,X[5]? =some vc∧GI h vc C
variable{C:Option (List U)}
variable{X:List U}{T D:List (List U)}{st:Bool}{fu:Nat}{L:Cn}
theorem CQ.n(w:CQ hS h p X C T D st fu L):hS.next.nat≤h.next.nat:=w.fr.1
theorem CQ.tb(w:CQ hS h p X C T D st fu L)(s:Dq hS p vl Lc XS):AH h p.pt 145 [.map p.pe]:=s.tb.of (w.fr.2 _ s.nt s.chT)
theorem CQ.em(w:CQ hS h p X C T D st fu L)(s:Dq hS p vl Lc XS):h.at p.pe=.map [] 0:=by rw[w.fr.2 _ s.ne s.chE];exact s.em
theorem CQ.ext{h':H}(w:CQ hS h p X C T D st fu L)(s:Dq hS p vl Lc XS)(x:AP h h'):CQ hS h' p X C T D st fu L where
 fr:=w.fr.trans x.DV
 rX:=w.rX.ext x (vZ s.nX w.n)
 rK:=by obtain⟨vt,vd,a,b,c⟩:=w.rK;exact⟨vt,vd,a.ext x (vZ s.nK w.n),b.ext x,c.ext x⟩
 rF:=w.rF.ext x (vZ s.nF w.n)
 mA:=by unfold Ct;rw[x.2 _ (vZ s.nA w.n)];exact w.mA
 kn:=w.kn.ext x
 cn:=by obtain⟨vc,a,b⟩:=w.cn;exact⟨vc,a,b.ext x⟩
theorem CQ.sl(w:CQ hS h p X C T D st fu L)(s:Dq hS p vl Lc XS):CI 4 h vl Lc:=s.sl.DV w.fr s.lv
theorem CQ.tok(d:CQ hS h p X C T D st fu L)(f:Dq hS p vl Lc XS){i:Nat}(g:i<Lc.length){j a b c:U}(e:Lc[i]=[j,a,b,c]){k:List (List U)}(l:CI 8 hS j k):CI 8 h j k:=
 l.DV d.fr λq o n z t m=>f.lt i g q o n z t (by rw[e,m];rfl)
theorem CQ.put{h':H}{q:P}(w:CQ hS h p X C T D st fu L)(a:q=p.pX∨q=p.pK∨q=p.pF∨q=p.pA)(b:h'.next=h.next)(d:∀c,c≠q→h'.at c=h.at c):CE (IW p hS) hS h':=
 w.fr.trans ⟨by rw[b];exact vE _,λc _ f=>d c λe=>f (by
  subst e;rcases a with q|q|q|q
  · exact .inl (.inl q)
  · exact .inl (.inr (.inl q))
  · exact .inl (.inr (.inr (.inl q)))
  · exact .inl (.inr (.inr (.inr (.inl q)))))⟩
theorem Kn.put{h h':H}{B a q:P}(n:Kn h B a)(b:h'.next=h.next)(d:∀c,c≠q→h'.at c=h.at c)(f:B≠q)(g:h.at q≠.map Hw 12):Kn h' B a:=
 n.DV (X:=λc=>c=q) ⟨by rw[b];exact vE _,λc _ i=>d c i⟩ f λc _ j e=>g (by rw[←e];exact j)
theorem AH.K8{h:H}{q:P}{e:TypeId}{cs:List U}(r:AH h q e cs):h.at q≠.map Hw 12:=λe=>r.CT e
theorem BJ.of{e:TypeId}{sz lo:Nat}{h h':H}{q:P}{v:U}{d:List (List U)}(b:BJ e sz lo h v d)(f:h'.next=h.next)(g:∀c,c≠q→h'.at c=h.at c)(i:∀t j z w,h.at q≠.row t j z e w):BJ e sz lo h' v d:=
 b.frame (by rw[f];exact vE _) λc _ _ t j z w a=>g c λe=>i t j z w (by rw[←e];exact a)
theorem AH.Fy{h:H}{q:P}{e b:TypeId}{cs:List U}(r:AH h q e cs)(c:e≠b):∀t d z f,h.at q≠.row t d z b f:=λt d z f a=>by obtain⟨g,i,_⟩:=r;rw[i] at a;simp only[Ob.row.injEq] at a;exact c a.2.2.2.1
theorem CQ.bL{h':H}{X':List U}(w:CQ hS h p X C T D st fu L)(s:Dq hS p vl Lc XS)(hn:h'.next=h.next)(hf:∀c,c≠p.pX→h'.at c=h.at c)(r:AH h' p.pX PL X')(h5:X'[5]? =X[5]? :=by rfl):CQ hS h' p X' C T D st fu L where
 fr:=w.put (.inl rfl) hn hf
 rX:=r
 rK:=by obtain⟨vt,vd,a,b,c⟩:=w.rK;exact⟨vt,vd,a.of (hf _ s.XK.symm),b.of hn hf (w.rX.Fy (by decide)),c.of hn hf (w.rX.Fy (by decide))⟩
 rF:=w.rF.of (hf _ s.XF.symm)
 mA:=by unfold Ct;rw[hf _ s.XA.symm];exact w.mA
 kn:=w.kn.put hn hf s.XB.symm w.rX.K8
 cn:=by obtain⟨vc,a,b⟩:=w.cn;exact⟨vc,by rw[h5];exact a,b.of hn hf (w.rX.WT (by decide) (by decide))⟩
theorem CQ.Bbc{h':H}{vt vd:U}{st':Bool}{T' D':List (List U)}(w:CQ hS h p X C T D st fu L)(s:Dq hS p vl Lc XS)(hn:h'.next=h.next)(hf:∀c,c≠p.pK→h'.at c=h.at c)(r:AH h' p.pK NK (p.cells vt vd st'))(hT:BJ Ci 8 hS.next.nat h vt T')(hD:BJ CC 4 hS.next.nat h vd D'):CQ hS h' p X C T' D' st' fu L where
 fr:=w.put (.inr (.inl rfl)) hn hf
 rX:=w.rX.of (hf _ s.XK)
 rK:=by obtain⟨vt0,vd0,a,b,c⟩:=w.rK;exact⟨vt,vd,r,hT.of hn hf (a.Fy (by decide)),hD.of hn hf (a.Fy (by decide))⟩
 rF:=w.rF.of (hf _ s.KF.symm)
 mA:=by unfold Ct;rw[hf _ s.KA.symm];exact w.mA
 kn:=by obtain⟨vt0,vd0,a,b,c⟩:=w.rK;exact w.kn.put hn hf s.KB.symm a.K8
 cn:=by obtain⟨vt0,vd0,a0,_,_⟩:=w.rK;obtain⟨vc,a,b⟩:=w.cn;exact⟨vc,a,b.of hn hf (a0.WT (by decide) (by decide))⟩
theorem CQ.gH{h':H}{fu':Nat}(w:CQ hS h p X C T D st fu L)(s:Dq hS p vl Lc XS)(hn:h'.next=h.next)(hf:∀c,c≠p.pF→h'.at c=h.at c)(r:AH h' p.pF HJ [.int .i64 (Int.ofNat fu')]):CQ hS h' p X C T D st fu' L where
 fr:=w.put (.inr (.inr (.inl rfl))) hn hf
 rX:=w.rX.of (hf _ s.XF)
 rK:=by obtain⟨vt,vd,a,b,c⟩:=w.rK;exact⟨vt,vd,a.of (hf _ s.KF),b.of hn hf (w.rF.Fy (by decide)),c.of hn hf (w.rF.Fy (by decide))⟩
 rF:=r
 mA:=by unfold Ct;rw[hf _ s.FA.symm];exact w.mA
 kn:=w.kn.put hn hf s.FB.symm w.rF.K8
 cn:=by obtain⟨vc,a,b⟩:=w.cn;exact⟨vc,a,b.of hn hf (w.rF.WT (by decide) (by decide))⟩
theorem CQ.gA{h':H}(w:CQ hS h p X C T D st fu L)(s:Dq hS p vl Lc XS)(f:CE (λc=>c=p.B) h h')(n:Kn h' p.B p.pA):CQ hS h' p X C T D st fu L where
 fr:=w.fr.trans (f.weak λc e=>.inl (.inr (.inr (.inr (.inr e)))))
 rX:=w.rX.of (f.2 _ (vZ s.nX w.n) s.XB)
 rK:=by
  obtain⟨vt,vd,a,b,c⟩:=w.rK;have nb:∀{e:TypeId},H2≠e→∀t m z w',h.at p.B≠.row t m z e w':=λ{e} he=>by
   rcases w.kn.2 with r|⟨_,_,_,r,_⟩
   · exact r.Fy he
   · exact r.Fy he
  exact⟨vt,vd,a.of (f.2 _ (vZ s.nK w.n) s.KB),b.frame f.1 λc hc _ t m z w' a=>f.2 c hc λe=>nb (e:=Ci) (by decide) t m z w' (by rw[←e];exact a),c.frame f.1 λc hc _ t m z w' a=>f.2 c hc λe=>nb (e:=CC) (by decide) t m z w' (by rw[←e];exact a)⟩
 rF:=w.rF.of (f.2 _ (vZ s.nF w.n) s.FB)
 mA:=by unfold Ct;rw[f.2 _ (vZ s.nA w.n) s.BA.symm];exact w.mA
 kn:=n
 cn:=by
  obtain⟨vc,a,b⟩:=w.cn;refine⟨vc,a,b.frame f.1 λc t m z e w' hc a' he=>f.2 c hc λq=>?_⟩;rw[q] at a';rcases w.kn.2 with r|⟨_,_,_,r,_⟩
  · exact r.WT (by decide) (by decide) e he t m z w' a'
  · exact r.WT (by decide) (by decide) e he t m z w' a'
end
end Go.Den
