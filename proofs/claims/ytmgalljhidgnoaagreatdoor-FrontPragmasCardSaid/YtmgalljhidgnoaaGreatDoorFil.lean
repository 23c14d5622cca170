/-
 Proof.
-/
import Derived.Test.YtmgalljhidgnoaaGreatDoorRny
open Int renaming ofNat → vJ
open Nat renaming le_refl → vE, lt_of_lt_of_le → vZ, lt_irrefl → yd, zero_le → vF
open List renaming mem_singleton → xJ, length_map → s9, range → xM, append_nil → vi
namespace Go.Den
open Go.RowKit
set_option maxRecDepth 100000
theorem Aws{b:H}{d f g:P}{v h:U}{l c:Nat}{i:Int}{c0:List U}{j:List UInt8}{a k:Int}(m:Gu c0)(r:bF c0 j a k)(s:CI 8 b v [c0])(u:h=.Af∨∃k o n z t,h=.slice k o n z t)(tb:AH b d 145 [.map f])(em:b.at f=.map [] 0)(w:AH b g HJ [.int .i64 (vJ 0)])(y:d.nat<b.next.nat)(ne:f.nat<b.next.nat)(a0:g.nat<b.next.nat){a1:KV}
 (a2:∀h' a3 a4 a5,CE (λc=>c=g) b h'→AH h' g HJ [.int .i64 (vJ 0)]→BJ CC 4 b.next.nat h' a3 [RA j a k]→CI 1 h' a4 (JX a5)→(∀q o n z k,a4=.slice q o n z k→b.next.nat≤q.nat)→a5.length≤1→(∀a6∈a5,a6.length≤1000000)→a1 (.agg [.Af,a3,.bool true,a4]) h'):W1 (.func 16) [.ptr d 0,v,.agg [.str l c,h,.int .i64 i],.ptr g 0] b a1:=by
 refine w16 (n:=3) AJ (af ?_);unfold RX;rw[CB];refine CA (by simp) ?_;refine newRow (e:=114) (cs:=[.str l c,h,.int .i64 i]) rfl λj a1 a5 a7=>?_;refine newRow (e:=M7) (cs:=[.Af,.Af,.bool false,.Af]) rfl λa5 a8 a9 b0=>?_;refine(a7.ext a8 (by omega)).A3 (o:=0) (ds:=[.str l c,h,.int .i64 i]) rfl rfl (by simp) ?_;refine BX ?_;have a9:AP a5 (a5.new (.map [] 0)):=.new;have a7:(a5.new (.map [] 0)).next.nat=a5.next.nat+1:=Bd;have b1:(a5.new (.map [] 0)).at a5.next=.map [] 0:=AS _ _;generalize a5.new (.map [] 0)=b2 at a9 a7 b1 ⊢;rw[Aba _ _ _ _ _ _ _ u,Ad,CB];refine CA (by simp) ?_;refine newRow (e:=jI) (cs:=[.ptr d 0,.str l c,h,.int .i64 i,.ptr g 0,.map a5.next,.Af,.bool false]) rfl λa7 b3 b4 b5=>?_;rw[tp,Ad,CB];refine CA (by simp) ?_;refine newRow (e:=Mn) (cs:=[.ptr b2.next 0,.bool true,.Af,.Af]) rfl λb4 b6 b7 r5=>?_;refine newRow (e:=117) (cs:=[.Bn]) rfl λb7 b8 b9 r6=>?_;refine r6.BC (j:=0) (cs':=[.ptr a7.next 0]) (by show 0<1;decide) rfl rfl λb7 c1 f7 r7=>?_;have c2:AP b4 b7:=b8.Gr (vE _) c1 f7;have b8:b7.next.nat=b4.next.nat+1:=by rw[c1,b9]
 have b7:v=.Af∨∃k o n z t,v=.slice k o n z t:=by
  rcases s with⟨e,_⟩|⟨q,o,c,b8,k,e,_⟩
  · exact .inl e
  · exact .inr ⟨_,_,_,_,_,e⟩
 have b9:∀{a k:P},a.nat≠k.nat→a≠k:=λq e=>q (by rw[e]);refine lJ b7 λc1 c3 c4 r8 l8 u8=>?_;have b7:AP b b2:=(a1.trans a8).trans a9;have c3:AP b4 c1:=c2.trans c4;have a1:AP b b4:=(b7.trans b3).trans b6;have a8:AP b c1:=a1.trans c3;have b:=c4.1;have T9:AH c1 b4.next 117 [.ptr a7.next 0]:=r7.ext c4 (by omega);have b:AH c1 a7.next Mn [.ptr b2.next 0,.bool true,.Af,.Af]:=r5.ext c3 (by omega);have c2:AH c1 j.next M7 [.Af,.Af,.bool false,.Af]:=b0.ext (((a9.trans b3).trans b6).trans c3) (by omega);have R8:EF c1 b2.next a5.next g d f (.str l c) h (.int .i64 i) [] 0:=by refine⟨b5.ext (b6.trans c3) (by omega),w.ext a8 a0,?_,tb.ext a8 y,by rw[a8.2 _ ne];exact em,by omega,by omega,vZ a0 a8.1,vZ y a8.1,vZ ne a8.1,b9 (by omega)⟩;unfold Ct;rw[((b3.trans b6).trans c3).2 _ (by omega)];exact b1
 refine UF T9 (by omega) (by omega) b r8 u8 (s.ext a8) (λq o n z k e w=>?_) (λc q=>by rw[xJ.1 q];exact m) (by show 1≤1000000;decide) λy f9 ⟨b,b7,a1⟩=>?_
 · rcases s with⟨c4,_⟩|⟨a9,b0,c1,b5,a0,c4,b3,_⟩
   · rw[c4] at e;cases e
   · rw[c4] at e;cases e;rw[w] at b3;omega
 refine By rfl ?_;have s:=f9.1;have U1:AH y b4.next 117 [.ptr a7.next 0]:=T9.of (f9.2 _ (by omega) (b9 (by omega)));have R9:EF y b2.next a5.next g d f (.str l c) h (.int .i64 i) [] 0:=R8.DV f9 (b9 (by omega)) (b9 (by omega)) (b9 (by omega)) (b9 (by omega)) (b9 (by omega));refine U1.Z (j:=0) (by show 0<1;decide) ?_;refine dS (by omega) m r R9 ⟨⟨b,b7,a1.r,λq o n z k e=>?_⟩,.inl ⟨rfl,rfl⟩,by omega,vE _⟩ λs a3 L' f10 R10 cY d f=>?_
 · rcases a1 with⟨c4,_⟩|⟨a9,h,b5,b,m,c4,_,b3,_⟩
   · rw[c4] at e;cases e
   · rw[c4] at e;cases e;exact b3
 have r:=f10.1;obtain⟨b,m,_,_⟩:=cY.row;have r:∀{p:P},p.nat≠g.nat→p≠a5.next→p≠a7.next→p≠b2.next→p.nat<y.next.nat→s.at p=y.at p:=λa k c i e=>f10.2 _ e λq=>by
  rcases q with q|q|q|q
  · exact a (by rw[q])
  · exact k q
  · exact c q
  · exact i q
 have b:AH s b4.next 117 [.ptr a7.next 0]:=U1.of (r (by omega) (b9 (by omega)) (b9 (by omega)) (b9 (by omega)) (by omega));have g:AH y j.next M7 [.Af,.Af,.bool false,.Af]:=c2.of (f9.2 _ (by omega) (b9 (by omega)));have i:AH s j.next M7 [.Af,.Af,.bool false,.Af]:=g.of (r (by omega) (b9 (by omega)) (b9 (by omega)) (b9 (by omega)) (by omega));rw[Fh];have y:a3.one=true:=f.one;have g:jC a3:=f.n.sl.elim (λe=>.inr (.inr (.inr (.inl e)))) λe=>.inr (.inr (.inr (.inr (.inl e))));refine df ?_;unfold ON;rw[Cr,decide_eq_false (yd _)];refine AR rfl ?_;refine b.Z (j:=0) (by show 0<1;decide) ?_;show oK (Ag (.ptr a7.next 0) s) _;rw[Aj,Ad,Ae];refine m.Z (j:=0) (by show 0<4;decide) ?_;show oK (Ag (.ptr b2.next 0) s) _;rw[Aj,Ad,Ae];refine R10.run.Z (j:=6) (by show 6<8;decide) ?_;refine b.Z (j:=0) (by show 0<1;decide) ?_;show oK (Ag (.ptr a7.next 0) s) _;rw[Aj,Ad,Ae];refine m.Z (j:=0) (by show 0<4;decide) ?_;show oK (Ag (.ptr b2.next 0) s) _;rw[Aj,Ad,Ae];refine R10.run.Z (j:=7) (by show 7<8;decide) ?_;show Be (.bool true) _;rw[AL];refine b.Z (j:=0) (by show 0<1;decide) ?_;show oK (Ag (.ptr a7.next 0) s) _;rw[Aj,Ad,Ae];refine m.Z (j:=0) (by show 0<4;decide) ?_;show oK (Ag (.ptr b2.next 0) s) _;rw[Aj,Ad,Ae];refine R10.run.Z (j:=5) (by show 5<8;decide) ?_;rw[Ae];refine c38 λr b6 c3 XV a0 u12=>?_;have r:∀{h':H}{b0:Prop},AP s h'→b0→(Z (.ptr b4.next 0) h' λc1=>BE c1 (.ptr a7.next 0)<|Z (.ptr a7.next (0+0)) h' λs=>BE s (.ptr b2.next 0)<|Z (.ptr b2.next (0+6)) h' λb7=>BE b7 a3<|Z (.ptr b4.next 0) h' λs=>BE s (.ptr a7.next 0)<|Z (.ptr a7.next (0+0)) h' λa1=>BE a1 (.ptr b2.next 0)<|Z (.ptr b2.next (0+7)) h' λs=>Be s λa9=>BE (.bool a9) (.bool true) b0):=λ{h' b0} x s=>by have b5:=b.ext x (by omega);have c4:=m.ext x (by omega);have b1:=(R10.ext x).run;refine b5.Z (j:=0) (by show 0<1;decide) (Cv (c4.Z (j:=0) (by show 0<4;decide) (Cv (b1.Z (j:=6) (by show 6<8;decide) ?_))));show BE a3 a3 _;refine C2 g ?_;refine b5.Z (j:=0) (by show 0<1;decide) (Cv (c4.Z (j:=0) (by show 0<4;decide) (Cv (b1.Z (j:=7) (by show 7<8;decide) ?_))));show Be (.bool true) _;rw[AL];exact Mc s
 refine r c3 ?_;refine NV (R10.ext c3).used d (by decide) XV λg a4 s b3 a5=>?_;have c2:=c3.trans s;refine r c2 ?_;have s:=i.ext c2 (by omega);refine s.BC (j:=1) (cs':=[.Af,a3,.bool false,.Af]) (by show 1<4;decide) y rfl λr i f14 a0=>?_;have WW:∀p,p≠j.next→r.at p=g.at p:=f14;refine((b.ext c2 (by omega)).of (WW _ (b9 (by omega)))).Z (j:=0) (by show 0<1;decide) (Cv ?_);refine((m.ext c2 (by omega)).of (WW _ (b9 (by omega)))).Z (j:=0) (by show 0<4;decide) (Cv ?_);refine((R10.ext c2).run.of (WW _ (b9 (by omega)))).Z (j:=7) (by show 7<8;decide) ?_;show Be (.bool true) _;rw[AL];refine Mc ?_;rw[Ae];refine a0.BC (j:=2) (cs':=[.Af,a3,.bool true,.Af]) (by show 2<4;decide) rfl rfl λy r f15 b=>?_;have m:a4.one=true:=by
  rcases a5 with⟨e,_⟩|⟨q,o,c,b8,k,e,_⟩
  · rw[e];rfl
  · rw[e];rfl
 rw[Ae];refine b.BC (j:=3) (cs':=[.Af,a3,.bool true,a4]) (by show 3<4;decide) m rfl λy b f16 b6=>?_;refine b6.A3 (o:=0) (ds:=[.Af,a3,.bool true,a4]) rfl rfl (by simp) ?_;refine b6.CV (o:=0) (ds:=[.Af,a3,.bool true,a4]) (cs':=[.Af,a3,.bool true,a4]) rfl (by decide) (by simp) rfl λm y f17 c1=>?_;refine c1.A3 (o:=0) (ds:=[.Af,a3,.bool true,a4]) rfl rfl (by simp) ?_;have PY:∀p,p≠j.next→m.at p=g.at p:=λp b4=>by rw[f17 p b4,f16 p b4,f15 p b4,f14 p b4]
 have b7:m.next.nat=g.next.nat:=by rw[y,b,r,i]
 have b:=c2.1;have i:∀{t b8 z e w},g.at j.next=.row t b8 z e w→e=M7:=λ{t b8 z e w} a=>by obtain⟨h,r,_⟩:=s;rw[a] at r;simp only[Ob.row.injEq] at r;exact r.2.2.2.1
 have y:=a8.1;refine a2 m a3 a4 (Ht (L'.map (·.1))) ⟨by omega,λp b4 b=>?_⟩ ?_ ?_ ?_ (λq o n z k e=>by have:=b3 q o n z k e;omega) ?_ ?_
 · rw[PY p (b9 (by omega)),c2.2 p (by omega),f10.2 p (by omega) λq=>?_,f9.2 p (by omega) (b9 (by omega)),a8.2 p b4];rcases q with q|q|q|q
   · exact b q
   · rw[q] at b4;omega
   · rw[q] at b4;omega
   · rw[q] at b4;omega
 · exact(R10.ext c2).fuel.of (PY _ (b9 (by omega)))
 · have g:=f.ext c2;have h:=g.frame (h':=m) (by omega) λp b4 _ t b8 z w e=>PY p λq=>by subst q;exact absurd (i e) (by decide)
   rcases h with e|⟨q,t,b8,w,e,s,r,g3,y⟩
   · exact .inl e
   · exact .inr ⟨q,t,b8,w,e,by omega,r,g3,y⟩
 · refine a5.DV (X:=λp=>p=j.next) ⟨by omega,λp _ b=>PY p b⟩ λq o n z k e w=>?_;have:=b3 q o n z k e;rw[w] at this;omega
 · have:=d.len;rw[(Fb _).length_eq,s9];exact this
 · intro a6 u;have:=(Fb _).mem_iff.1 u;obtain⟨x,f,e⟩:=List.mem_map.1 this;rw[←e];exact d.sh x f
section
variable{hS h:H}{p:PW}{vl:U}{Lc:List (List U)}{XS:List (List (List U))}{T D:List (List U)}{C:Option (List U)}{fu:Nat}{L:Cn}{X:List U}
theorem AY.fresh{h:H}{e:TypeId}{sz lo:Nat}{v:U}{a:List (List U)}(b:AY e sz lo h v a):∀q o n z t,v=.slice q o n z t→lo≤q.nat:=λq o n z t e=>by
 rcases b with⟨c,_⟩|⟨d,f,i,j,k,c,g,_⟩
 · rw[c] at e;cases e
 · rw[c] at e;cases e;exact g
theorem uk{lo:Nat}{v:U}{a:List (List U)}{b:List UInt8}{d:U}{f:Int}(g:Dq hS p vl Lc XS)(i:∀c∈a,Gu c)(j:a.length≤1000)(k:a.length≤fu)(l:fu≤1000000)(m:d=.Af∨∃q o n z t,d=.slice q o n z t):
 WR hS p X C T D fu L b d f lo v a (λT' DG r s=>T'=a∧DG=[]∧r=false∧s=fu-a.length):=λh K u q w=>by
 have x:=u.n;refine c16 (l:=b.length) (c:=enc b) i j k l q.n.r.OA m (u.tb g) (u.em g) u.rF (vZ g.nt x) (vZ g.ne x) (vZ g.nF x) λy d f r a0 a1 a2 a3 s a4 a5=>?_;exact w y d .Af f r a [] false _ a0 a1 a2.r.OA (λc b=>(i c b).l8) (.inl ⟨rfl,rfl⟩) a3 s a2.fresh a4 a5 ⟨rfl,rfl,rfl,rfl⟩
theorem Ajl{lo:Nat}{v:U}{c0:List U}{b:List UInt8}{a d:Int}{f:List UInt8}{g:U}{i:Int}(j:Dq hS p vl Lc XS)(k:Gu c0)(l:bF c0 b a d)(m:g=.Af∨∃d o n z t,g=.slice d o n z t):
 WR hS p X C T D 0 L f g i lo v [c0] (λT' DG r s=>T'=[]∧DG=[RA b a d]∧r=true∧s=0):=λh K u d w=>by
 have x:=u.n;refine Aws (l:=f.length) (c:=enc f) k l d.n.r.OA m (u.tb j) (u.em j) u.rF (vZ j.nt x) (vZ j.ne x) (vZ j.nF x) λy g i r a0 a1 a2 a3 s a4 a5=>?_;exact w y .Af g i r [] [RA b _ _] true 0 a0 a1 (.inl ⟨rfl,rfl⟩) (λc k=>absurd k List.not_mem_nil) a2.n.r.OA a3 s (λq o n z d e=>by cases e) a4 a5 ⟨rfl,rfl,rfl,rfl⟩
end
end Go.Den
namespace Go.Den
open Go.RowKit
set_option maxRecDepth 100000
def jQ:List UInt8:=[112,114,97,103,109,97]
theorem fp:II jQ=13:=by decide
def Abs(c:List (List U))(o:List U):Prop:=∃d a b,c=[o]∧Gu o∧bF o d a b∧TxL [o]
def Aay(c:List (List U))(o:List U):Prop:=∃c0 d f l g a b h i j k m,c=c0::d::f∧gK jQ c0 d∧d=[h,i,j,S g,.int .i64 a,.int .i64 b,k,m]∧Lf f l∧l.length≤1000000∧(∀n,(Ch true (l.take n)).length≤1000000)∧o=bN (Ch true l) g a b
section
variable{hS:H}{p:PW}{vl:U}{Lc:List (List U)}{XS:List (List (List U))}
theorem Xm(c:Dq hS p vl Lc XS){e5 e9:List UInt8}{b9:U}{d5:Int}(b2:b9=.Af∨∃a6 o n z t,b9=.slice a6 o n z t)(OT:Nat→List U)(d9:XS.length≤10000)(d1:∀b (m:b<XS.length),Abs XS[b] (OT b)∨Aay XS[b] (OT b))(d2:∀b (m:b+1<XS.length),Abs XS[b] (OT b)→Aay XS[b+1] (OT (b+1))){f:Nat}(e1:f≤1000000){c9:KV}
    (b1:∀h a1 y a3 j,CQ hS h p a1 none ((xM (min XS.length f)).map OT) y (decide (f<XS.length)) a3 j→(∃d,d≤XS.length∧DI j d)→c9 (.tuple []) h):
    ∀(d b n:Nat){m:H}{b4 b5 b6 b7 b8:U}{a9:List UInt8}{a0 a7:Int}{j:Cn},XS.length-b=d→b≤XS.length→b≤f→4*d+1≤n→CQ hS m p (p.file e5 e9 b9 d5 .Af b4 b5 b6 b7 a9 a0 a7 b8) none ((xM b).map OT) [] false (f-b) j→(∃d,d≤b∧DI j d)→
      (HN W1 c9 n).a1 (.ptr p.pX 0) vl (.ptr p.B 0) (vJ b) m
  |0,b,n,m,b4,b5,b6,b7,b8,a9,a0,a7,j,f9,hi,e2,g0,w,d3=>by
    have e:b=XS.length:=by omega
    obtain⟨n,rfl⟩:∃i,n=i+1:=⟨n-1,by omega⟩;refine MP w c (.inl (by rw[c.ls.1];omega)) ?_;subst e;refine b1 m (p.file e5 e9 b9 d5 .Af b4 b5 b6 b7 a9 a0 a7 b8) [] (f-XS.length) j ?_ d3;rw[Nat.min_eq_left e2,decide_eq_false (by omega)];exact w
  |d+1,b,n,m,b4,b5,b6,b7,b8,a9,a0,a7,j,f9,hi,e2,g0,w,d3=>by
    have r:b<XS.length:=by omega
    have b0:b<Lc.length:=by rw[c.ls.1];exact r
    have i4:Lc.length=XS.length:=c.ls.1;obtain⟨i8,h5,h6,h7,c5,a4⟩:=c.ls.2 b b0 r;obtain⟨v,i5,a8⟩:=d3;have d0:((xM b).map OT).length=b:=by rw[s9,List.length_range]
    have d6:(xM (b+1)).map OT=(xM b).map OT++[OT b]:=by rw[List.range_succ,List.map_append];rfl
    -- what ends in a limit
    have e4:∀{h:H}{a1:List U}{c2 y:List (List U)}{L':Cn}{a3:Nat},f-b=0→c2=(xM b).map OT→CQ hS h p a1 none c2 y true a3 L'→(∃d,d≤b+1∧DI L' d)→c9 (.tuple []) h:=λ{h a1 c2 y L' a3} i1 f1 g a5=>by
      have f3:f=b:=by omega
      refine b1 h a1 y a3 L' ?_ ?_
      · rw[Nat.min_eq_right (by omega),decide_eq_true (by omega),f3,←f1];exact g
      · obtain⟨q,s,o⟩:=a5;exact⟨q,by omega,o⟩
    rcases d1 b r with b3|b3
    · obtain⟨d7,a,a6,a2,e0,f7,e8⟩:=id b3;obtain⟨n,rfl⟩:∃i,n=(2*1+(i+1))+1:=⟨n-4,by omega⟩;have e7:Stp hS Lc (b+1):=by
        by_cases q:b+1<XS.length
        · obtain⟨c0,d4,R,l,i2,h8,h9,g9,h1,h2,h3,h4,f2,c4,_⟩:=d2 b q b3;obtain⟨g6,A',B',O',f4,e3⟩:=c.ls.2 (b+1) (by omega) q;rw[f2] at e3;exact .inr ⟨g6,A',B',O',c0,d4,R,jQ,by omega,f4,e3,c4,by rw[fp];decide⟩
        · exact .inl (by omega)
      rw[a2] at a4;refine aF w c b0 c5 a4 e8 λc6 g7=>?_;have c1:=w.ext c g7;have e6:Oj XS b (b+1)=[OT b]:=by rw[ml (vE _) r,dH,if_pos rfl,a2];rfl
      refine Rl (a:=b) (j:=b+1) (n0:=n+1) c1 c r (by omega) (λq s c6 c7=>?_) (λq c6 c7=>?_) (λc7 i6 g8 c3=>?_) 1 b (by omega) (vE _) (by omega) .refl (.inl ⟨rfl,dH XS b⟩)
      · obtain rfl:q=b:=by omega
        rw[a2];exact e8
      · by_cases g4:q=b
        · subst g4;rw[dH];exact vF _
        · obtain rfl:q=b+1:=by omega
          rw[e6];show 1≤1000000;decide
      · have x:=c1.ext c g8;rw[e6] at c3;rw[Nat.zero_add];by_cases d8:f-b=0
        · rw[d8] at x;refine TA (R:=[OT b]) (skp:=false) (b1:=v) x c e7 c3 (by show 1≤1000;decide) (by omega) a8 (by rw[d0];omega) (vF _) (Q:=λT' DG u k=>T'=[]∧DG=[RA d7 a a6]∧u=true∧k=0) (λT' DG u k q=>by rw[q.1,q.2.1];exact⟨vF _,by show 1≤100000;decide⟩) (λh g3 g c8=>cu g.rX c8) (λq=>by rcases q with q|q<;>cases q) (λ_ _=>Ajl c e0 f7 b2) λ_ _ h T' DG u k L' q g a5=>?_;obtain⟨rfl,rfl,rfl,rfl⟩:=q;obtain⟨n,rfl⟩:∃i,n=i+1:=⟨n-1,by omega⟩;refine MP g c (.inr rfl) ?_;rw[vi] at g;obtain⟨q,s,o⟩:=a5;have s:q≤v+1:=s;exact e4 d8 rfl g ⟨q,by omega,o⟩
        · refine TA (R:=[OT b]) (skp:=false) (b1:=v) x c e7 c3 (by show 1≤1000;decide) (by omega) a8 (by rw[d0];omega) (vF _) (Q:=λT' DG u k=>T'=[OT b]∧DG=[]∧u=false∧k=f-b - [OT b].length) (λT' DG u k q=>by rw[q.1,q.2.1];exact⟨by show 1≤100000;decide,vF _⟩) (λh g3 g c8=>cu g.rX c8) (λq=>by rcases q with q|q<;>cases q) (λ_ _=>uk c (λi0 q=>by rw[xJ.1 q];exact e0) (by show 1≤1000;decide) (by show 1≤f-b;omega) (by omega) b2) λ_ _ h T' DG u k L' q g a5=>?_;obtain⟨rfl,rfl,rfl,rfl⟩:=q;rw[←d6,vi] at g;obtain⟨q,s,o⟩:=a5;have s:q≤v+1:=s;rw[show f-b - [OT b].length=f-(b+1) by show f-b-1=_;omega] at g;exact Xm c b2 OT d9 d1 d2 e1 b1 d (b+1) n (by omega) r (by omega) (by omega) g ⟨q,by omega,o⟩
    · obtain⟨c0,d4,R,l,d7,a,a6,g9,h1,h2,h3,h4,a2,c4,f0,g1,f8,g5,f5⟩:=b3;obtain⟨n,rfl⟩:∃i,n=i+1:=⟨n-1,by omega⟩;rw[a2] at a4;refine dN w c b0 (by omega) c5 a4 c4 (by rw[fp];decide) λc6 c1=>?_;rw[fp];refine Atf c1 c (by decide) b0 c5 a4 f0 λc7 i7 x g2 av=>?_;refine cu x.rX ?_;rw[AL];refine By rfl ?_;refine Wb x c (vF _) (by rw[d0];omega) (by omega) g2 av g1 f8 g5 (λi3 f6 w3=>?_) (λh0 f6 w3=>?_)
      · rw[←f5,←d6] at w3;rw[show f-b-1=f-(b+1) by omega] at w3;exact Xm c b2 OT d9 d1 d2 e1 b1 d (b+1) n (by omega) r (by omega) (by omega) w3 ⟨v,by omega,a8⟩
      · obtain⟨n,rfl⟩:∃i,n=i+1:=⟨n-1,by omega⟩;refine MP w3 c (.inr rfl) ?_;exact e4 h0 rfl w3 ⟨v,by omega,a8⟩
end
end Go.Den
namespace Go.Den
open Go.RowKit
open Go.Lx (Rn AA BQ)
set_option maxRecDepth 100000
def KH(a:List UInt8)(XS:List (List (List U)))(N0 b:Nat)(Q:List (List U)→List (List U)→Bool→Nat→Prop):Prop:=
 ∀{c d:H}{p:PW}{f:U}{Lc:List (List U)}{g:U}{h:KV}{n:Nat},Dq c p f Lc XS→(g=.Af∨∃i o n z t,g=.slice i o n z t)→N0≤n→
  CQ c d p (p.file a a g (vJ 0) .Af .Af (.int .i64 (vJ 0)) (.int .i64 (vJ 0)) (.bool false) [] (vJ 0) (vJ 0) .Af) none [] [] false b []→
  (∀j k l m q r s,CQ c j p k none l m q r s→(∃u,u≤1000∧DI s u)→Q l m q r→h (.tuple []) j)→(HN W1 h n).a1 (.ptr p.pX 0) f (.ptr p.B 0) (vJ 0) d
theorem LnS.mk'{a:H}{b c:List UInt8}{lo:Nat}{Lc:List (List U)}(o:FF lo a b (BQ c) Lc (EV c)):LnS a Lc (Hv b c):=by refine⟨by rw[JA];exact o.1,λd f g=>?_⟩;obtain⟨h,e,i⟩:=o.2 d f (by rw[JA] at g;exact g);refine⟨h,_,_,_,e,?_⟩;have:=i.r.OA;rw[hU (by rw[JA] at g;exact g) g];exact this
abbrev ChL(a b c d f:P):Prop:=f=a∨f=b∨f=c∨f=d
theorem qi{b:H}{c d f h i j k l:P}{m r:List UInt8}{s u w x w3 y a0 a1:U}{a2 a3 N0 lo:Nat}{Lc D0:List (List U)}{Q:List (List U)→List (List U)→Bool→Nat→Prop}
    (LT:KH m (Hv m r) N0 a3 Q) (a4:G≤b.next.nat)
    (a5:AH b c PL (flr d m s)) (a6:AH b d NK (Mo f w x w3 D9 ET h j .Af .Af y a0 false k l a2)) (a7:RI lo b m r u a1 s D0 Lc)
    (tb:AH b h 145 [.map i]) (em:b.at i=.map [] 0) (a8:AH b j HJ [.int .i64 (vJ a3)]) (a9:Ct b l []) (b0:i≠l)
    (b1:c.nat<b.next.nat) (b2:d.nat<b.next.nat) (b3:h.nat<b.next.nat) (ne:i.nat<b.next.nat) (b4:j.nat<b.next.nat) (b5:l.nat<b.next.nat) {b6:KV}
    (b7:∀b8 b9 c0 c1 c2 c3 c4 c5 c6,CE (ChL c d j l) b b8→AH b8 c PL b9→(∃c7,b9[5]? =some c7∧∀(K:Nat→Prop),K 0→Bz c7 K)→AH b8 d NK (Mo f w x w3 D9 ET h j c0 c1 y a0 c4 k l a2)→BJ Ci 8 b.next.nat b8 c0 c2→BJ CC 4 b.next.nat b8 c1 c3→Ct b8 l c6→(∃c8,c8≤1000∧DI c6 c8)→Q c2 c3 c4 c5→b6 (.tuple []) b8):W1 (.func 62) [.ptr c 0,u] b b6:=by
  refine w62 (n:=N0+1) AJ (g62 ?_);unfold V0;rw[Aez,Ad,CB];refine CA (by simp) ?_;refine newRow (e:=H2) (cs:=jv) rfl λb6 c9 d0 d1=>?_;let p:PW:=⟨c,d,f,h,i,j,k,l,b.next,w,x,w3,y,a0,a2⟩;have f:∀{a k:P},a.nat≠k.nat→a≠k:=λq e=>q (by rw[e]);have w:RI lo b6 m r u a1 s D0 Lc:=a7.keep c9.1 λx y _ _=>c9.2 x y;have X1:=a5.ext c9 b1;have K1:=a6.ext c9 b2;have F1:=a8.ext c9 b4;have A1:Ct b6 l []:=by unfold Ct;rw[c9.2 _ b5];exact a9
  have d0:∀{q:P}{e:TypeId},(∃t c8 z a0,b6.at q=.row t c8 z e a0)→q.nat<b6.next.nat→PL≠e→NK≠e→HJ≠e→H2≠e→¬IW p b6 q:=λ{q e} ⟨t,c8,z,a0,a⟩ a2 a1 a7 a5 b1=>by
    refine IW.not a2 (λa6=>?_) (λa6=>?_) (λa6=>?_) (λa6=>?_) (λa6=>?_)
    · rw[a6] at a;exact X1.Fy a1 t c8 z a0 a
    · rw[a6] at a;exact K1.Fy a7 t c8 z a0 a
    · rw[a6] at a;exact F1.Fy a5 t c8 z a0 a
    · rw[a6] at a;unfold Ct at A1;rw[show p.pA=l from rfl,A1] at a;cases a
    · rw[a6] at a;exact d1.Fy b1 t c8 z a0 a
  have b2:Dq b6 p u Lc (Hv m r):=
    { tb:=tb.ext c9 b3,em:=by rw[c9.2 _ ne];exact em,sl:=w.z.n.r.OA,ls:=LnS.mk' w.o,
      lv:=λq o n z t e=>by
        rcases w.z with⟨r,_⟩|⟨a6,t',m',w',r,_,g,a,_⟩
        · rw[r] at e;cases e
        · rw[r] at e;cases e;exact d0 ⟨_,_,_,_,a⟩ g (by decide) (by decide) (by decide) (by decide),
      lt:=λu hi q o n z t e=>by
        obtain⟨c0,r,k⟩:=w.o.2 u hi (by rw[←w.o.1];exact hi);rw[r] at e;have e:c0=.slice q o n z t:=Option.some.inj e;rcases k with⟨e2,_⟩|⟨a6,t',m',z',w',e2,_,g,a,_⟩
        · rw[e2] at e;cases e
        · rw[e2] at e;cases e;exact d0 ⟨_,_,_,_,a⟩ g (by decide) (by decide) (by decide) (by decide),
      rX:=⟨_,X1⟩,rK:=⟨_,K1⟩,rF:=⟨_,F1⟩,mA:=⟨_,A1⟩,kB:=⟨_,d1⟩,
      nX:=by show c.nat<_;omega,nK:=by show d.nat<_;omega,nF:=by show j.nat<_;omega,nA:=by show l.nat<_;omega,nB:=by show b.next.nat<_;omega,nt:=by show h.nat<_;omega,ne:=by show i.nat<_;omega,eA:=b0 }
  have u:CQ b6 b6 p (p.file m m s (vJ 0) .Af .Af (.int .i64 (vJ 0)) (.int .i64 (vJ 0)) (.bool false) [] (vJ 0) (vJ 0) .Af) none [] [] false a3 []:=
    ⟨.refl,X1,⟨.Af,.Af,K1,.inl ⟨rfl,rfl⟩,.inl ⟨rfl,rfl⟩⟩,F1,A1,⟨⟨a4,by show b.next.nat<_;omega⟩,.inl d1⟩,.Af,rfl,.inl rfl⟩
  refine LT b2 w.st.sl (vE _) u λb8 b9 c2 c3 c4 c5 c6 w' r q=>?_;obtain⟨c0,c1,c,d,j⟩:=w'.rK;obtain⟨c7,l,h⟩:=w'.cn;have i:∀{e:TypeId}{sz:Nat}{v:U}{m:List (List U)},BJ e sz b6.next.nat b8 v m→BJ e sz b.next.nat b8 v m:=λk=>by
    rcases k with e|⟨q,t,c8,a0,e,s,u⟩
    · exact .inl e
    · exact .inr ⟨q,t,c8,a0,e,by omega,u⟩
  refine b7 b8 b9 c0 c1 c2 c3 c4 c5 c6 ⟨by have:=w'.n;omega,λx y w=>?_⟩ w'.rX ⟨c7,l,λK m=>?_⟩ c (i d) (i j) w'.mA r q
  · rw[w'.fr.2 x (by omega) (IW.not (by omega) (λe=>w (.inl e)) (λe=>w (.inr (.inl e))) (λe=>w (.inr (.inr (.inl e)))) (λe=>w (.inr (.inr (.inr e)))) (f (by show x.nat≠b.next.nat;omega))),c9.2 x y]
  · rcases h with rfl|⟨q,o,z,k,rfl⟩
    · exact m
    · exact m
theorem Agi{h:H}{b c d f g i j k l:P}{m:List Fl}{o p:List UInt8}{r s w3:U}{u N0:Nat}{Q:List (List U)→List (List U)→Bool→Nat→Prop}(LT:KH o (Hv o p) N0 u Q)(w:G≤h.next.nat)(y:JT p=true)
 (tb:Hx h b c d m) (w:DA m o=some p) (a0:p.length≤2048) (a1:o.length≤1000)
 (c:AH h f NK (Mo b r s w3 D9 ET g j .Af .Af .Af .Af false k l 0))
 (d:AH h g 145 [.map i]) (em:h.at i=.map [] 0) (m:AH h j HJ [.int .i64 (vJ u)]) (a0:Ct h l []) (a1:Ct h k []) (a2:k≠l) (a3:k≠i) (a4:i≠l)
 (u:f.nat<h.next.nat) (a5:g.nat<h.next.nat) (ne:i.nat<h.next.nat) (a6:j.nat<h.next.nat) (a7:l.nat<h.next.nat) (a8:k.nat<h.next.nat) {a9:KV}
 (b0:∀b1 b2 b3 L' b4 b5 b6 b7,CE (ChF j l f k) h b1→AH b1 f NK (Mo b r s w3 D9 ET g j b2 b3 .Af .Af b6 k l 0)→BJ Ci 8 h.next.nat b1 b2 b4→BJ CC 4 h.next.nat b1 b3 b5→Ct b1 k (inc o [])→Ct b1 l L'→(∃n,n≤1000∧DI L' n)→Q b4 b5 b6 b7→a9 (.tuple []) b1):
 W1 (.func 36) [.ptr f 0,S o] h a9:=by
 have b1:f≠l:=λe=>by subst e;exact c.CT a0
 have b2:f≠k:=λe=>by subst e;exact c.CT a1
 have b3:f≠j:=c.ne m (by decide);have a9:g≠l:=λe=>by subst e;exact d.CT a0
 have a9:g≠k:=λe=>by subst e;exact d.CT a1
 have b8:g≠f:=d.ne c (by decide);have b9:i≠f:=λe=>by subst e;exact c.CT em
 have i:j≠k:=λe=>by subst e;exact m.CT a1
 refine w36 (n:=3) AJ (g36 ?_);unfold Ww;rw[Aj,Ad,Ae];refine c.Z (j:=0) (by show 0<16;decide) ?_;refine c33 tb o λv c0=>?_;rw[w] at c0 ⊢;obtain⟨x,w,c1,q,rfl⟩:∃x,some p=some x∧Cl 4 h v x∧∃q,v=.ptr q 0:=by
  rcases c0 with⟨e,_⟩|c0
  · cases e
  · exact c0
 obtain rfl:p=x:=Option.some.inj w;rw[Dw,Dt];show Be (.bool true) _;rw[AL,Aj,Ad,Ae,Ae];refine c.Z (j:=4) (by show 4<16;decide) ?_;refine newRow (e:=110) (cs:=[.Af,.Af,.Af]) rfl λw c0 c2 c3=>?_;have K1:=c.ext c0 u;refine K1.Z (j:=4) (by show 4<16;decide) (YP ?_);refine c61 (c1.ext c0) (by omega) λc2 c4=>?_;rw[CR];have c1:=c0.trans c4;have K2:=c.ext c1 u;refine K2.Z (j:=4) (by show 4<16;decide) (YP ?_);show W1 (.func 15) [S o,S p] c2 _;refine bV (by omega) λlo c0 c5 c6 c7 b5 Lc c8 c9 d0=>?_;have c8:=c1.trans c9;have r3:=(c3.ext c4 (by omega)).ext c9 (by have:=c4.1;omega);have c1:=c4.1;have c3:=c9.1;refine r3.CV (o:=0) (ds:=[c5,c6,c7]) (cs':=[c5,c6,c7]) rfl (by decide) (by simp) rfl λc1 c4 c3 c9=>?_;have d1:AP h c1:=c8.Gr (vE _) c4 c3;have c8:c1.next.nat=c0.next.nat:=by rw[c4]
 have c0:RI lo c1 o p c5 c6 c7 b5 Lc:=d0.keep (by omega) λc8 _ c4 _=>c3 c8 λe=>by subst e;omega
 rw[Ae];refine c9.Z (j:=2) (by show 2<3;decide) ?_;have d0:=c0.st.sl;show oK (AF env (env.ty 114) [(0,.str o.length (enc o)),(1,c7)] c1) _;rw[Ary _ _ _ d0,Ad,Arc _ _ _ _ d0,Ad,CB];refine CA (by simp) ?_;refine newRow (e:=PL) (cs:=flr f o c7) rfl λc3 d0 d2 r5=>?_;have d2:=d1.trans d0;have d1:=d2.1;have K5:=c.ext d2 u;rw[Aj,Ad,Ae];refine K5.Z (j:=13) (by show 13<16;decide) ?_;show oK (BO env 100 (.map k) (.str o.length (enc o)) false c3) _;have S5:Ct c3 k []:=by unfold Ct;rw[d2.2 _ a8];exact a1
 refine S5.add .nil (by decide) λc u f6 S6=>?_;have d1:c.next.nat=c3.next.nat:=by rw[u]
 have K6:=K5.of (f6 _ b2);rw[Aj,Ad,Ae];refine K6.Z (j:=15) (by show 15<16;decide) ?_;show Ar .i64 (.int .i64 (vJ 0)) _;rw[AG];refine Bx (by decide) ?_;rw[Aj,Ad,Ae];refine K6.BC (j:=15) (cs':=Mo b r s w3 D9 ET g j .Af .Af .Af .Af false k l 1) (by show 15<16;decide) rfl rfl λu a8 f7 K7=>?_;have a1:u.next.nat=c.next.nat:=by rw[a8]
 rw[Aj,Ad,Ae,Ae];refine K7.Z (j:=9) (by show 9<16;decide) ?_;have c:∀{a d1:P},a.nat≠d1.nat→a≠d1:=λq e=>q (by rw[e]);have r7:AH u h.next 110 [c5,c6,c7]:=((c9.ext d0 (by omega)).of (f6 _ (c (by omega)))).of (f7 _ (c (by omega)));have a1:RI lo u o p c5 c6 c7 b5 Lc:=(c0.keep d0.1 λc8 a8 _ _=>d0.2 c8 a8).keep (by omega) λc8 a8 c4 _=>by rw[f7 c8 (c (by omega)),f6 c8 (c (by omega))]
 rw[Ae];refine r7.Z (j:=1) (by show 1<3;decide) ?_;show oK (AB env .append [31,31] [.Af,c6] u) _;have c9:=a1.c y;subst c9;rw[iE,UZ (sz:=4) (lo:=0) (v:=.Af) (L:=[]) (.inl ⟨rfl,rfl⟩) (JJ a1.d.r.OA) Aob (ig (by decide)),Ad];rw[Aj,Ad,Ae,Ae];refine K7.BC (j:=9) (cs':=Mo b r s w3 D9 ET g j .Af .Af .Af .Af false k l 1) (by show 9<16;decide) rfl rfl λy c0 f9 K9=>?_;have d0:y.next.nat=u.next.nat:=by rw[c0]
 have g9:∀c8,c8.nat<c3.next.nat→c8≠k→c8≠f→y.at c8=c3.at c8:=λc8 a8 w c2=>by rw[f9 c8 c2,f7 c8 c2,f6 c8 w]
 have r9:AH y h.next 110 [c5,c6,c7]:=r7.of (f9 _ (c (by omega)));have u:RI lo y o p c5 c6 c7 [] Lc:=a1.keep (by omega) λc8 a8 c4 _=>f9 c8 (c (by omega));have X9:AH y c1.next PL (flr f o c7):=r5.of (g9 _ (by omega) (c (by omega)) (c (by omega)));have p:∀c8,c8.nat<h.next.nat→c8≠k→c8≠f→y.at c8=h.at c8:=λc8 a8 w c2=>by rw[g9 c8 (by omega) w c2,d2.2 c8 a8]
 have A9:Ct y l []:=by unfold Ct;rw[p _ a7 a2.symm b1.symm];exact a0
 rw[Ae];refine r9.Z (j:=0) (by show 0<3;decide) ?_;refine qi LT (by omega) X9 K9 u (d.of (p _ a5 a9 b8)) (by rw[p _ ne a3.symm b9];exact em) (m.of (p _ a6 i b3.symm)) A9 a4 (by omega) (by omega) (by omega) (by omega) (by omega) (by omega) λf w d d10 b4 b5 b6 b7 L10 f10 X10 u K10 c9 d0 A10 c0 q10=>?_;have m:=f10.1;obtain⟨w,m,c5⟩:=u;obtain⟨c3,m⟩:=List.getElem?_eq_some_iff.1 m;refine Aqq ?_;unfold WD;rw[Aj,Ad,Ae];refine X10.Z (j:=5) c3 ?_;rw[m];refine c5 _ ?_;refine Avb ?_;unfold VZ;rw[Cr,decide_eq_false (yd _)];refine AR rfl ?_;rw[Aj,Ad,Ae];refine K10.Z (j:=15) (by show 15<16;decide) ?_;show Ar .i64 (.int .i64 (vJ 1)) _;rw[AG];refine JK (by decide) (by decide) ?_;rw[Aj,Ad,Ae];refine K10.BC (j:=15) (cs':=Mo b r s w3 D9 ET g j d d10 .Af .Af b6 k l 0) (by show 15<16;decide) rfl rfl λw u f11 K11=>?_;have m:w.next.nat=f.next.nat:=by rw[u]
 have S9:Ct y k (inc o []):=by unfold Ct;rw[f9 _ b2.symm,f7 _ b2.symm];exact S6
 have b:c1.next≠k:=λe=>by rw[e] at X9;exact X9.CT S9
 have S11:Ct w k (inc o []):=by
  unfold Ct;rw[f11 _ b2.symm,f10.2 _ (by omega) λq=>by
   rcases q with q|q|q|q
   · exact b q.symm
   · exact b2 q.symm
   · exact i q.symm
   · exact a2 q]
  exact S9
 have A11:Ct w l L10:=by unfold Ct;rw[f11 _ b1.symm];exact A10
 have kp:∀{e:TypeId}{sz:Nat}{v:U}{g:List (List U)},BJ e sz y.next.nat f v g→BJ e sz h.next.nat w v g:=λd1=>by
  refine BJ.frame (h:=f) ?_ (by omega) λc8 _ c4 t j z r e=>f11 c8 λq=>?_
  · rcases d1 with e|⟨q,t,j,r,e,a,d1,c8,s⟩
    · exact .inl e
    · exact .inr ⟨q,t,j,r,e,by omega,d1,c8,s⟩
  · rw[q] at c4;omega
 refine b0 w d d10 L10 b4 b5 b6 b7 ⟨by omega,λc8 a8 m=>?_⟩ K11 (kp c9) (kp d0) S11 A11 c0 q10;rw[f11 c8 λq=>m (.inr (.inr (.inl q))),f10.2 c8 (by omega) λq=>?_,p c8 a8 (λq=>m (.inr (.inr (.inr q)))) λq=>m (.inr (.inr (.inl q)))];rcases q with q|q|q|q
 · exact absurd q (c (by omega))
 · exact m (.inr (.inr (.inl q)))
 · exact m (.inl q)
 · exact m (.inr (.inl q))
end Go.Den
