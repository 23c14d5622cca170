/-
 Proof.
-/
import Derived.Test.YtmgalljhidgnoaaGreatDoorLpo
import Derived.Test.YtmgalljhidgnoaaGreatDoorIst
open Nat renaming lt_of_lt_of_le → vZ, le_refl → vE, beq → vS, add → vN, mul → vO, beq_refl → wZ, ble_eq_true_of_le → wY
open List renaming getElem_map → ye, length_append → o7, length_map → s9
open Int renaming ofNat → vJ
open Bool renaming rec → wg
namespace Go.Den
open Go.RowKit
set_option maxRecDepth 100000
abbrev M7:TypeId:=116
theorem EF.DV{a b:H}{c d f g h:P}{i j k:U}{l:Cn}{m:Nat}{X:P→Prop}(r:EF a c d f g h i j k l m)(x:CE X a b)(n:¬X c)(o:¬X d)(p:¬X f)(q:¬X g)(s:¬X h):EF b c d f g h i j k l m:=by have t:b.at d=a.at d:=x.2 _ r.nM o;have u:b.at h=a.at h:=x.2 _ r.ne s;exact⟨r.run.of (x.2 _ r.nN n),r.fuel.of (x.2 _ r.nF p),by unfold Ct;rw[t];exact r.used,r.da.of (x.2 _ r.nt q),by rw[u];exact r.emp,vZ r.nN x.1,vZ r.nM x.1,vZ r.nF x.1,vZ r.nt x.1,vZ r.ne x.1,r.em⟩
theorem Acb{a:List (List U)}{b:Nat}(h:b<a.length)(c:b<(BG a).length):(BG a)[b]=a[b]++[.Af]:=ye (λd=>d++[U.Af]) (h:=c)
theorem Ari{b:List U}(c:Gu b)(d:H):AE env 30 (λt f=>Ap 1 [(0,.agg b)] d t f)=some (.slice d.next 0 1 8 true,d.new (.row (Ai b 0 Z48) 8 0 Ci true)):=by obtain⟨g,h,i,j,k,a,l,e,_⟩:=c.ex;subst e;exact dt _ _ _ _ _ _ _ _ _
theorem nz{h0:H}{a b:P}{c:U}{d:List (List U)}(f:∀g∈d,Gu g)(h:d.length≤1000000)(i:Hz Eo 9 h0 c (BG d))(j:a.nat<h0.next.nat)(k:∃cs,AH h0 a M7 cs){l:KV}{n0:Nat}
    (m:∀n p,CE (λg=>g=a) h0 n→AH n a M7 [p,.Af,.bool false,.Af]→AY Ci 8 h0.next.nat n p d→(r16 W1 l (0+n0)).a1 (.ptr a 0) (.ptr b 0) c (vJ d.length) (vJ d.length) n):
    ∀(r s:Nat){u:H}{p:U},d.length-s=r→s≤d.length→CE (λg=>g=a) h0 u→AH u a M7 [p,.Af,.bool false,.Af]→AY Ci 8 h0.next.nat u p (d.take s)→(r16 W1 l (r+n0)).a1 (.ptr a 0) (.ptr b 0) c (vJ d.length) (vJ s) u
  |0,s,u,p,v,hi,x,w,y=>by
    have e:s=d.length:=by omega
    subst e;rw[List.take_length] at y;exact m u p x w y
  |r+1,s,u,p,v,hi,x,w,y=>by
    have n:s<d.length:=by omega
    have b:s<(BG d).length:=by rw[Gm];exact n
    have l:=f _ (List.getElem_mem n);have p:=x.1;rw[show r+1+n0=(r+n0)+1 by omega];refine df ?_;unfold ON;rw[Cr,decide_eq_true n];refine By rfl (Cy ?_);have v:Hz Eo 9 u c (BG d):=i.frame p λg l t r z c e=>x.2 g l λq=>by subst q;obtain⟨cs,a0,a1,_⟩:=k;rw[e] at a1;cases a1
    refine(v.OA.rd b).elem b λq o _ _ a2=>?_;rw[Acb n b] at a2;have v:(d[s]++[U.Af]).length=9:=by rw[o7,l.l8];rfl
    refine a2.A3 v ?_;refine newRow (e:=Eo) (cs:=Fs++[.Af]) rfl λb a2 a3 a4=>?_;refine a4.CV (o:=0) (ds:=d[s]++[.Af]) (cs':=d[s]++[.Af]) v (by decide) (by show 0+9≤9;decide) (by rw[show(Fs++[U.Af]).drop (0+9)=[] from rfl];simp) λb v f3 r3=>?_;have X3:AP u b:=a2.Gr (vE _) v f3;rw[Ae,Ae];refine r3.Z (j:=7) (by omega) ?_;have b:(d[s]++[U.Af])[7]'(by omega)=.Af:=by rw[List.getElem_append_left (by rw[l.l8];decide)];exact l.c7
    rw[b];refine Ex ji ?_;rw[Ae,Ae];refine r3.BC (j:=7) (cs':=d[s]++[.Af]) (by omega) rfl (by rw[List.set_append_left _ _ (by rw[l.l8];decide),l.s7]) λv b a3 a4=>?_;have X4:AP u v:=X3.Gr (vE _) b a3;have v:a.nat<u.next.nat:=vZ j p;rw[Ae];have q4:=w.ext X4 v;refine q4.Z (j:=0) (by show 0<4;decide) ?_;rw[Ae];refine a4.A3 (o:=0) (ds:=d[s]) l.l8 (by rw[List.drop_zero,List.take_left'];rfl) (by rw[l.l8];decide) ?_;rw[Ari l,Ad,SS];have b:=y.ext X4;have a:(d.take s).length=s:=by rw[List.length_take];omega
    have u:=X4.1;refine LM (ds:=d[s]) (.inr b) l.l8 Yv (Nx (by omega)) (by omega) λp v w k5=>?_;have q5:=q4.GD k5 (by omega) (by decide);rw[Ae];refine q5.BC (j:=0) (cs':=[p,.Af,.bool false,.Af]) (by show 0<4;decide) w.one rfl λy a f6 r6=>?_;have u:=k5.1;refine Bx (by omega) (nz f h i j k m r (s+1) (by omega) n ⟨by rw[a];omega,λg l b=>?_⟩ r6 ?_)
    · rw[f6 g b,k5.2 g (by omega) (.inl l),X4.2 g (by omega),x.2 g l b]
    · have v:d.take (s+1)=d.take s++[d[s]]:=by rw[List.take_add_one,List.getElem?_eq_getElem n];rfl
      rw[v];refine w.frame (by rw[a];exact vE _) λg _ _ t r z c e=>f6 g λq=>?_;subst q;obtain⟨a0,a1,_⟩:=q5;rw[e] at a1;cases a1
theorem Aba(p t f:P)(l a:Nat)(b:U)(c:Int)(d:b=.Af∨∃g o n z t,b=.slice g o n z t)(h:H):AF env (env.ty jI) [(0,.ptr t 0),(1,.agg [.str l a,b,.int .i64 c]),(2,.ptr f 0),(3,.map p)] h=some (.agg [.ptr t 0,.str l a,b,.int .i64 c,.ptr f 0,.map p,.Af,.bool false],h):=by
 rcases d with rfl|⟨g,o,n,z,t,rfl⟩
 · kernel_rfl
 · kernel_rfl
theorem tp(p:P)(h:H):AF env (env.ty Mn) [(0,.ptr p 0),(1,.bool true)] h=some (.agg [.ptr p 0,.bool true,.Af,.Af],h):=by kernel_rfl
theorem Mc{a:Bool}{b:Prop}(c:b):BE (.bool a) (.bool a) b:=C2 (.inr (.inr (.inl ⟨a,rfl⟩))) c
theorem c16{b:H}{d f g:P}{v h:U}{l c:Nat}{i:Int}{j:List (List U)}{k:Nat}(m:∀c∈j,Gu c)(r:j.length≤1000)(s:j.length≤k)(u:k≤1000000)(w:CI 8 b v j)(y:h=.Af∨∃a0 o n z t,h=.slice a0 o n z t)(tb:AH b d 145 [.map f])(em:b.at f=.map [] 0)(a1:AH b g HJ [.int .i64 (vJ k)])(a2:d.nat<b.next.nat)(ne:f.nat<b.next.nat)(a3:g.nat<b.next.nat){a4:KV}
 (a5:∀a6 a7 a8 a9,CE (λc=>c=g) b a6→AH a6 g HJ [.int .i64 (vJ (k-j.length))]→AY Ci 8 b.next.nat a6 a7 j→CI 1 a6 a8 (JX a9)→(∀q o n z a0,a8=.slice q o n z a0→b.next.nat≤q.nat)→a9.length≤j.length→(∀b0∈a9,b0.length≤1000000)→a4 (.agg [a7,.Af,.bool false,a8]) a6):W1 (.func 16) [.ptr d 0,v,.agg [.str l c,h,.int .i64 i],.ptr g 0] b a4:=by
 refine w16 (n:=j.length+2) AJ (af ?_);unfold RX;rw[CB];refine CA (by simp) ?_;refine newRow (e:=114) (cs:=[.str l c,h,.int .i64 i]) rfl λa4 a9 b1 b2=>?_;refine newRow (e:=M7) (cs:=[.Af,.Af,.bool false,.Af]) rfl λb1 b3 b4 b5=>?_;refine(b2.ext b3 (by omega)).A3 (o:=0) (ds:=[.str l c,h,.int .i64 i]) rfl rfl (by simp) ?_;refine BX ?_;have b4:AP b1 (b1.new (.map [] 0)):=.new;have b2:(b1.new (.map [] 0)).next.nat=b1.next.nat+1:=Bd;have b6:(b1.new (.map [] 0)).at b1.next=.map [] 0:=AS _ _;generalize b1.new (.map [] 0)=b7 at b4 b2 b6 ⊢;rw[Aba _ _ _ _ _ _ _ y,Ad,CB];refine CA (by simp) ?_;refine newRow (e:=jI) (cs:=[.ptr d 0,.str l c,h,.int .i64 i,.ptr g 0,.map b1.next,.Af,.bool false]) rfl λb2 b8 b9 c0=>?_;rw[tp,Ad,CB];refine CA (by simp) ?_;refine newRow (e:=Mn) (cs:=[.ptr b7.next 0,.bool true,.Af,.Af]) rfl λb9 c1 c2 r5=>?_;refine newRow (e:=117) (cs:=[.Bn]) rfl λc2 c3 c4 r6=>?_;refine r6.BC (j:=0) (cs':=[.ptr b2.next 0]) (by show 0<1;decide) rfl rfl λc2 c5 f7 r7=>?_;have c6:AP b9 c2:=c3.Gr (vE _) c5 f7;have c3:c2.next.nat=b9.next.nat+1:=by rw[c5,c4]
 have c2:v=.Af∨∃a0 o n z t,v=.slice a0 o n z t:=by
  rcases w with⟨e,_⟩|⟨q,o,c,c3,a0,e,_⟩
  · exact .inl e
  · exact .inr ⟨_,_,_,_,_,e⟩
 have c4:∀{a a0:P},a.nat≠a0.nat→a≠a0:=λq e=>q (by rw[e]);refine lJ c2 λc5 c7 c8 r8 l8 u8=>?_;have c2:AP b b7:=(a9.trans b3).trans b4;have c7:AP b9 c5:=c6.trans c8;have a9:AP b b9:=(c2.trans b8).trans c1;have b3:AP b c5:=a9.trans c7;have c6:=c8.1;have T9:AH c5 b9.next 117 [.ptr b2.next 0]:=r7.ext c8 (by omega);have c2:AH c5 b2.next Mn [.ptr b7.next 0,.bool true,.Af,.Af]:=r5.ext c7 (by omega);have a9:AH c5 a4.next M7 [.Af,.Af,.bool false,.Af]:=b5.ext (((b4.trans b8).trans c1).trans c7) (by omega);have R8:EF c5 b7.next b1.next g d f (.str l c) h (.int .i64 i) [] k:=by refine⟨c0.ext (c1.trans c7) (by omega),a1.ext b3 a3,?_,tb.ext b3 a2,by rw[b3.2 _ ne];exact em,by omega,by omega,vZ a3 b3.1,vZ a2 b3.1,vZ ne b3.1,c4 (by omega)⟩;unfold Ct;rw[((b8.trans c1).trans c7).2 _ (by omega)];exact b6
 refine UF T9 (by omega) (by omega) c2 r8 u8 (w.ext b3) (λq o n z a0 e c6=>?_) m (by omega) λc8 f9 ⟨a7,b4,b5⟩=>?_
 · rcases w with⟨c5,_⟩|⟨a1,c0,a2,a3,b8,c5,c1,_⟩
   · rw[c5] at e;cases e
   · rw[c5] at e;cases e;rw[c6] at c1;omega
 refine By rfl ?_;have w:=f9.1;have U1:AH c8 b9.next 117 [.ptr b2.next 0]:=T9.of (f9.2 _ (by omega) (c4 (by omega)));have R9:EF c8 b7.next b1.next g d f (.str l c) h (.int .i64 i) [] k:=R8.DV f9 (c4 (by omega)) (c4 (by omega)) (c4 (by omega)) (c4 (by omega)) (c4 (by omega));refine U1.Z (j:=0) (by show 0<1;decide) ?_;refine c42 (by omega) m R9 ⟨⟨a7,b4,b5.r,λq o n z a0 e=>?_⟩,.inl ⟨rfl,rfl⟩,by omega,vE _⟩ s u λw d L' f f10 R10 cY h i=>?_
 · rcases b5 with⟨c5,_⟩|⟨a1,k,a3,d,f,c5,_,c1,_⟩
   · rw[c5] at e;cases e
   · rw[c5] at e;cases e;exact c1
 have s:=f10.1;obtain⟨u,d,_,_⟩:=cY.row;have f:∀{p:P},p.nat≠g.nat→p≠b1.next→p≠b2.next→p.nat<c8.next.nat→w.at p=c8.at p:=λa a0 c e=>f10.2 _ e λq=>by
  rcases q with q|q|q
  · exact a (by rw[q])
  · exact a0 q
  · exact c q
 have s:AH w b9.next 117 [.ptr b2.next 0]:=U1.of (f (by omega) (c4 (by omega)) (c4 (by omega)) (by omega));have u:AH c8 a4.next M7 [.Af,.Af,.bool false,.Af]:=a9.of (f9.2 _ (by omega) (c4 (by omega)));have g:AH w a4.next M7 [.Af,.Af,.bool false,.Af]:=u.of (f (by omega) (c4 (by omega)) (c4 (by omega)) (by omega));rw[cY.out.len,Gm];refine nz (n0:=1) m (by omega) cY.out.r (by omega) ⟨_,g⟩ (λf u f11 c7 c2=>?_) j.length 0 (by omega) (Nat.zero_le _) .refl g (.inl ⟨rfl,rfl⟩);have m:=f11.1;have R11:=R10.DV f11 (c4 (by omega)) (c4 (by omega)) (c4 (by omega)) (c4 (by omega)) (c4 (by omega));have g:=d.of (f11.2 _ (by omega) (c4 (by omega)));have m:=s.of (f11.2 _ (by omega) (c4 (by omega)));refine df ?_;unfold ON;rw[Cr,decide_eq_false (Nat.lt_irrefl _)];refine AR rfl ?_;refine m.Z (j:=0) (by show 0<1;decide) ?_;show oK (Ag (.ptr b2.next 0) f) _;rw[Aj,Ad,Ae];refine g.Z (j:=0) (by show 0<4;decide) ?_;show oK (Ag (.ptr b7.next 0) f) _;rw[Aj,Ad,Ae];refine R11.run.Z (j:=6) (by show 6<8;decide) ?_;refine m.Z (j:=0) (by show 0<1;decide) ?_;show oK (Ag (.ptr b2.next 0) f) _;rw[Aj,Ad,Ae];refine g.Z (j:=0) (by show 0<4;decide) ?_;show oK (Ag (.ptr b7.next 0) f) _;rw[Aj,Ad,Ae];refine R11.run.Z (j:=7) (by show 7<8;decide) ?_;show Be (.bool false) _;rw[AL];refine m.Z (j:=0) (by show 0<1;decide) ?_;show oK (Ag (.ptr b2.next 0) f) _;rw[Aj,Ad,Ae];refine g.Z (j:=0) (by show 0<4;decide) ?_;show oK (Ag (.ptr b7.next 0) f) _;rw[Aj,Ad,Ae];refine R11.run.Z (j:=5) (by show 5<8;decide) ?_;rw[Ae];refine c38 λd s a2 XV b8 u12=>?_;have d:∀{a6:H}{s:Prop},AP f a6→s→(Z (.ptr b9.next 0) a6 λc0=>BE c0 (.ptr b2.next 0)<|Z (.ptr b2.next (0+0)) a6 λf=>BE f (.ptr b7.next 0)<|Z (.ptr b7.next (0+6)) a6 λa7=>BE a7 .Af<|Z (.ptr b9.next 0) a6 λf=>BE f (.ptr b2.next 0)<|Z (.ptr b2.next (0+0)) a6 λb4=>BE b4 (.ptr b7.next 0)<|Z (.ptr b7.next (0+7)) a6 λf=>Be f λa1=>BE (.bool a1) (.bool false) s):=λ{a6 s} x f=>by have s:=m.ext x (by omega);have a3:=g.ext x (by omega);have b6:=(R11.ext x).run;refine s.Z (j:=0) (by show 0<1;decide) (Cv (a3.Z (j:=0) (by show 0<4;decide) (Cv (b6.Z (j:=6) (by show 6<8;decide) ?_))));show BE .Af .Af _;rw[UA];refine s.Z (j:=0) (by show 0<1;decide) (Cv (a3.Z (j:=0) (by show 0<4;decide) (Cv (b6.Z (j:=7) (by show 7<8;decide) ?_))));show Be (.bool false) _;rw[AL];exact Mc f
 refine d a2 ?_;have s:(BG j).length≤1000:=by rw[Gm];exact r
 refine NV (R11.ext a2).used h s XV λf a8 j r b5=>?_;have s:=a2.trans j;refine d s ?_;have j:=c7.ext s (by omega);refine j.BC (j:=1) (cs':=[u,.Af,.bool false,.Af]) (by show 1<4;decide) rfl rfl λd c5 f14 c1=>?_;have WW:∀p,p≠a4.next→d.at p=f.at p:=f14;refine((m.ext s (by omega)).of (WW _ (c4 (by omega)))).Z (j:=0) (by show 0<1;decide) (Cv ?_);refine((g.ext s (by omega)).of (WW _ (c4 (by omega)))).Z (j:=0) (by show 0<4;decide) (Cv ?_);refine((R11.ext s).run.of (WW _ (c4 (by omega)))).Z (j:=7) (by show 7<8;decide) ?_;show Be (.bool false) _;rw[AL];refine Mc ?_;rw[Ae];refine c1.BC (j:=2) (cs':=[u,.Af,.bool false,.Af]) (by show 2<4;decide) rfl rfl λd m f15 g=>?_;have d:a8.one=true:=by
  rcases b5 with⟨e,_⟩|⟨q,o,c,c3,a0,e,_⟩
  · rw[e];rfl
  · rw[e];rfl
 rw[Ae];refine g.BC (j:=3) (cs':=[u,.Af,.bool false,a8]) (by show 3<4;decide) d rfl λg b1 f16 c8=>?_;refine c8.A3 (o:=0) (ds:=[u,.Af,.bool false,a8]) rfl rfl (by simp) ?_;refine c8.CV (o:=0) (ds:=[u,.Af,.bool false,a8]) (cs':=[u,.Af,.bool false,a8]) rfl (by decide) (by simp) rfl λd g f17 a9=>?_;refine a9.A3 (o:=0) (ds:=[u,.Af,.bool false,a8]) rfl rfl (by simp) ?_;have PY:∀p,p≠a4.next→d.at p=f.at p:=λp b8=>by rw[f17 p b8,f16 p b8,f15 p b8,f14 p b8]
 have c0:d.next.nat=f.next.nat:=by rw[g,b1,m,c5]
 have g:=s.1;have m:∀{t c3 z e c6},f.at a4.next=.row t c3 z e c6→e=M7:=λ{t c3 z e c6} a=>by obtain⟨k,g,_⟩:=j;rw[a] at g;simp only[Ob.row.injEq] at g;exact g.2.2.2.1
 have f:=b3.1;refine a5 d u a8 (Ht (L'.map (·.1))) ⟨by omega,λp b8 k=>?_⟩ ?_ ?_ ?_ (λq o n z a0 e=>by have:=r q o n z a0 e;omega) ?_ ?_
 · rw[PY p (c4 (by omega)),s.2 p (by omega),f11.2 p (by omega) (c4 (by omega)),f10.2 p (by omega) λq=>?_,f9.2 p (by omega) (c4 (by omega)),b3.2 p b8];rcases q with q|q|q
   · exact k q
   · rw[q] at b8;omega
   · rw[q] at b8;omega
 · rw[←i];exact(R11.ext s).fuel.of (PY _ (c4 (by omega)))
 · have j:=c2.ext s;refine(j.low (show b.next.nat≤w.next.nat by omega)).frame (by omega) λp b8 _ t c3 z c6 e=>PY p λq=>?_;subst q;exact absurd (m e) (by decide)
 · refine b5.DV (X:=λp=>p=a4.next) ⟨by omega,λp _ k=>PY p k⟩ λq o n z a0 e c6=>?_;have:=r q o n z a0 e;rw[c6] at this;omega
 · have:=h.len;rw[Gm] at this;rw[(Fb _).length_eq,s9];exact this
 · intro b0 y;have:=(Fb _).mem_iff.1 y;obtain⟨x,g,e⟩:=List.mem_map.1 this;rw[←e];exact h.sh x g
end Go.Den
namespace Go.Den
open Go.RowKit
set_option maxRecDepth 100000
theorem Xy{e:TypeId}{sz lo:Nat}{a:TI}{c:H}{v x:U}{d f:List (List U)}(g:BJ e sz lo c v d)(h:BH c sz x=some (f.length,f.flatten))(i:∀j∈f,j.length=sz)(k:a.size=sz)(l:Bl a (d.length+f.length)=true)(m:lo≤c.next.nat):
 ∃r s,BK (some false) v x c e a=some (r,s)∧BJ e sz lo s r (d++f)∧c.next.nat≤s.next.nat∧∀j,j.nat<c.next.nat→(∀o n z b,v≠.slice j o n z b)→s.at j=c.at j:=by
 have u:C7 v=d.length:=by rcases g with⟨rfl,rfl⟩|⟨_,_,_,_,rfl,_⟩<;>rfl
 have w:Da v=true:=by rcases g with⟨rfl,rfl⟩|⟨_,_,_,_,rfl,_⟩<;>rfl
 have y:BK (some false) v x c e a=(wg (Dx e sz v f.length f.flatten c) (some (v,c)) (vS f.length 0):Option (U×H)):=by show(Option.rec none (λp=>wg none (wg (Dx e a.size v p.1 p.2 c) (some (v,c)) (vS p.1 0)) (An (Da v) (Bl a (vN (C7 v) p.1)))) (BH c a.size x):Option (U×H))=_;rw[k,h];show(wg none (wg (Dx e sz v f.length f.flatten c) (some (v,c)) (vS f.length 0)) (An (Da v) (Bl a (vN (C7 v) f.length))):Option (U×H))=_;rw[u,w,show Bl a (vN d.length f.length)=true from l];rfl
 rw[y];by_cases h:f=[]
 · subst h;exact⟨v,c,rfl,by rw[List.append_nil];exact g,vE _,λ_ _ _=>rfl⟩
 have k:vS f.length 0=false:=by
  cases f with
  |nil=>exact absurd rfl h
  |cons _ _=>rfl
 rw[k];rcases g with⟨rfl,rfl⟩|⟨q,t,a,l,rfl,u,w,y,h,k⟩
 · refine⟨.slice c.next 0 f.length sz false,c.new (.row (Ai f.flatten 0 .e) (vO f.length sz) 0 e false),rfl,.inr ⟨c.next,Ai f.flatten 0 .e,vO f.length sz,false,rfl,m,by rw[Bd];omega,AS _ _,vE _,?_⟩,by rw[Bd];omega,λj g _=>CY g⟩;have:=E5.aK (t:=.e) (E5.nil (sz:=sz) (o:=0)) i;rwa [show([]:List (List U)).length*sz=0 by simp] at this
 · have l:Dx e sz (.slice q 0 d.length sz false) f.length f.flatten c=(wg none (JU e q 0 d.length f.length sz f.flatten c (CG (c.at q))) (vS sz sz):Option (U×H)):=rfl;show∃r s,Dx e sz (.slice q 0 d.length sz false) f.length f.flatten c=some (r,s)∧_;rw[l,wZ,y];show∃r s,(wg none (some (.slice c.next 0 (vN d.length f.length) sz false,(c.put q .dead).new (.row (Ai f.flatten (vN 0 (vO d.length sz)) t) (vN 0 (vO (vN d.length f.length) sz)) 0 e false)))
    (An (An (vS e e) (vS 0 0)) (An (Nat.ble (vN 0 (vO d.length sz)) a) (Nat.ble 0 (vN 0 (vO d.length sz))))):Option (U×H))=some (r,s)∧_
   have u:vN 0 (vO d.length sz)=d.length*sz:=Nat.zero_add _;rw[u,wZ,wY h,wY (Nat.zero_le _)];refine⟨_,_,rfl,.inr ⟨c.next,_,_,false,?_,m,?_,AS (c.put q .dead) _,?_,k.aK i⟩,?_,λj g w=>?_⟩
   · rw[o7];rfl
   · show c.next.nat<(P.succ c.next).nat;rw[P.Ce];omega
   · rw[o7];show(d.length+f.length)*sz≤0+(d.length+f.length)*sz;omega
   · show c.next.nat≤(P.succ c.next).nat;rw[P.Ce];omega
   · have l:j≠q:=λy=>w _ _ _ _ (by rw[y]);rw[CY (show j.nat<(c.put q .dead).next.nat from g),AQ l]
theorem Azh{a:H}{b:List U}{kd:Nat}{tx:List UInt8}(c:b.length=8)(h0:b[0]'(by omega)=.int .i64 (vJ kd))(d:b[1]'(by omega)=S tx)(f:tx≠[35])(g:tx≠[37,58]){h:KV}(i:∀j,AP a j→h (.bool false) j):W1 (.func 107) [.agg b] a h:=by
 refine mq (n:=1) AJ (Alc ?_);unfold Nd;rw[CB];refine CA (λe=>by rw[e] at c;cases c) ?_;refine newRow (e:=Ci) (cs:=b) rfl λk l m n=>?_;rw[Ae];refine n.Z (j:=0) (by omega) ?_;rw[h0,AG];refine Dm (λ_=>?_) (λ_=>?_)
 · rw[Ae];refine n.Z (j:=1) (by omega) ?_;have o:b[0+1]'(by omega)=S tx:=d;rw[o,CR];have p:CL tx.length (enc tx) 1 35=false:=by have:=LZ (s:=tx) (t:=[35]) f;rw[show enc [35]=35 by kernel_rfl] at this;exact this
   have q:CL tx.length (enc tx) 2 14885=false:=by have:=LZ (s:=tx) (t:=[37,58]) g;rw[show enc [37,58]=14885 by kernel_rfl] at this;exact this
   rw[p];refine F7 (λ_=>?_) (λe=>by cases e);rw[Ae];refine n.Z (j:=1) (by omega) ?_;rw[o,CR,q];exact i _ l
 · exact i _ l
theorem c83{b:H}{v q:U}{c:List (List U)}(d:CI 8 b v c)(f:∀g∈c,Gu g∧g[1]?≠some (S [35])∧g[1]?≠some (S [37,58])){h:KV}(i:∀j,AP b j→h (.int .i64 (.ofNat 0)) j):W1 (.func 83) [q,v] b h:=by
 refine w83 (n:=1) AJ (g83 ?_);unfold Rv;rw[d.len,DB];cases c with
 |nil=>refine F7 (λe=>by cases e) (λ_=>?_);exact By rfl (i _ .refl)
 |cons g c=>
  refine F7 (λ_=>?_) (λe=>by cases e);obtain⟨k,l,m⟩:=f g List.mem_cons_self;have hi:0<(g::c).length:=by simp
  have l8:=k.l8;refine(d.rd hi).elem hi λq o _ _ n=>?_;refine n.A3 l8 ?_;obtain⟨kd,tx,p,r,s,a,t,e,_⟩:=k.ex;subst e;refine Azh (kd:=kd) (tx:=tx) rfl rfl rfl (λe=>l (by rw[e];rfl)) (λe=>m (by rw[e];rfl)) λu w=>?_;rw[AL];exact By rfl (i _ w)
end Go.Den
noncomputable section
namespace Go.Den
open Go.RowKit
set_option maxRecDepth 100000
abbrev NK:TypeId:=102
abbrev PL:TypeId:=159
def Mo(a:P)(b c w3 w4 w5:U)(d f:P)(g h i j:U)(k:Bool)(l m:P)(n:Nat):List U:=
 [.ptr a 0,b,c,w3,w4,w5,.ptr d 0,.ptr f 0,g,h,i,j,.bool k,.map l,.map m,.int .i64 (vJ n)]
theorem iE(x y:U)(h:H):AB env .append [31,31] [x,y] h=BK (some false) x y h CC (DS CC):=by kernel_rfl
end Go.Den
noncomputable section
namespace Go.Den
open Go.RowKit
set_option maxRecDepth 100000
def flr(a:P)(b:List UInt8)(c:U):List U:=
 [.ptr a 0,S b,S b,c,.int .i64 (.ofNat 0),.Af,.Af,.int .i64 (.ofNat 0),.int .i64 (.ofNat 0),.bool false,.str 0 0,.int .i64 (.ofNat 0),.int .i64 (.ofNat 0),.Af]
end Go.Den
noncomputable section
namespace Go.Den
open Go.RowKit
set_option maxRecDepth 100000
def NZ:List (List U)→List (List U)
 |[]=>[]
 |y::r=>y.set 2 (.bool true)::r
def Hn(a:List (List U)):Bool→List (List (List U))→List (List U)
 |_,[]=>a
 |f,b::r=>Hn (a++(if f=true then b else NZ b)) false r
theorem rV(X:List (List U)):(NZ X).length=X.length:=by cases X<;>rfl
theorem rE{a b:List (List U)}(c:0<b.length)(hi:a.length<(a++b).length):(a++b).set a.length ((a++b)[a.length].set 2 (.bool true))=a++NZ b:=by
 cases b with
 |nil=>exact absurd c (by decide)
 |cons d r=>rw[List.getElem_append_right (vE _),List.set_append_right _ _ (vE _)];simp[NZ]
theorem aa(a:List (List U)):∀(l:List (List (List U)))(b:List (List U)),Hn b false (l++[a])=Hn b false l++NZ a
 |[],b=>by simp[Hn]
 |c::l,b=>by show Hn (b++(if false=true then c else NZ c)) false (l++[a])=Hn (b++(if false=true then c else NZ c)) false l++NZ a;exact aa a l _
theorem bj(X:List (List U)):∀(l:List (List (List U))),Hn [] true (l++[X])=Hn [] true l++(if l=[] then X else NZ X)
 |[]=>by simp[Hn]
 |Y::l=>by rw[if_neg (by simp)];show Hn ([]++(if true=true then Y else NZ Y)) false (l++[X])=Hn ([]++(if true=true then Y else NZ Y)) false l++NZ X;exact aa X l _
def LnS(b:H)(Lc:List (List U))(XS:List (List (List U))):Prop:=Lc.length=XS.length∧∀c (d:c<Lc.length) (f:c<XS.length),∃g a h i,Lc[c]=[g,a,h,i]∧CI 8 b g XS[c]
end Go.Den
noncomputable section
namespace Go.Den
open Go.RowKit
set_option maxRecDepth 100000
abbrev D9:U:=.func (.func 15) [] []
abbrev ET:U:=.func (.func 16) [] []
theorem Aez(h:H):AF env (env.ty 207) [] h=some (.agg [.int .u32 (.ofNat 0),.int .i32 (.ofNat 0),.int .u32 (.ofNat 0),.GH],h):=by kernel_rfl
end Go.Den
noncomputable section
namespace Go.Den
open Go.RowKit
open Go.Lx (Rn AA BQ)
set_option maxRecDepth 100000
def Hv(a b:List UInt8):List (List (List U)):=(EV b).map λx=>FD a (BQ b) x.1
theorem JA(a b:List UInt8):(Hv a b).length=(EV b).length:=s9 ..
theorem hU{a b:List UInt8}{c:Nat}(h:c<(EV b).length)(d:c<(Hv a b).length):(Hv a b)[c]=FD a (BQ b) (EV b)[c].1:=ye (λx:SU=>FD a (BQ b) x.1) (h:=d)
theorem YP{a:Prop}(b:a):BE D9 D9 a:=by unfold BE;rw[show E6 4 D9 D9=true by kernel_rfl];exact b
theorem Ary(l a:Nat)(b:U)(c:b=.Af∨∃d o n z t,b=.slice d o n z t)(f:H):AF env (env.ty 114) [(0,.str l a),(1,b)] f=some (.agg [.str l a,b,.int .i64 (.ofNat 0)],f):=by
 rcases c with rfl|⟨d,o,n,z,t,rfl⟩
 · kernel_rfl
 · kernel_rfl
theorem Arc(p:P)(l a:Nat)(b:U)(c:b=.Af∨∃d o n z t,b=.slice d o n z t)(f:H):AF env (env.ty PL) [(0,.ptr p 0),(1,.str l a),(2,.agg [.str l a,b,.int .i64 (.ofNat 0)])] f=some (.agg [.ptr p 0,.str l a,.str l a,b,.int .i64 (.ofNat 0),.Af,.Af,.int .i64 (.ofNat 0),.int .i64 (.ofNat 0),.bool false,.str 0 0,.int .i64 (.ofNat 0),.int .i64 (.ofNat 0),.Af],f):=by
 rcases c with rfl|⟨d,o,n,z,t,rfl⟩
 · kernel_rfl
 · kernel_rfl
theorem Aob:(DS CC).size=4:=by kernel_rfl
theorem ig{n:Nat}(a:n≤1099511627776):Bl (DS CC) n=true:=G1 (by kernel_rfl) (by kernel_rfl) a
abbrev ChF(a b c d f:P):Prop:=f=a∨f=b∨f=c∨f=d
end Go.Den
namespace Go.Den
open Go.RowKit
open Go.Lx (Rn AA BQ)
set_option maxRecDepth 100000
abbrev TRs:TypeId:=34
abbrev TCg:TypeId:=37
abbrev THk:TypeId:=67
theorem Awg(p:P)(h:H):AF env (env.ty 145) [(0,.map p)] h=some (.agg [.map p],h):=by kernel_rfl
theorem Are(h:H):AF env (env.ty HJ) [] h=some (.agg [.int .i64 (vJ 0)],h):=by kernel_rfl
theorem c34{a:H}{b:KV}(c:∀d f g,AP a d→AH d f 145 [.map g]→d.at g=.map [] 0→a.next.nat≤f.nat→f.nat<d.next.nat→a.next.nat≤g.nat→g.nat<d.next.nat→b (.ptr f 0) d):W1 (.func 34) [] a b:=by refine w34 (n:=1) AJ (g34 ?_);unfold W5;refine BX ?_;have h:AP a (a.new (.map [] 0)):=.new;have i:(a.new (.map [] 0)).next.nat=a.next.nat+1:=Bd;have j:(a.new (.map [] 0)).at a.next=.map [] 0:=AS _ _;generalize a.new (.map [] 0)=h1 at h i j ⊢;rw[Awg,Ad,CB];refine CA (by simp) ?_;refine newRow (e:=145) (cs:=[.map a.next]) rfl λk l m n=>?_;exact c k h1.next a.next (h.trans l) n (by rw[l.2 _ (by omega)];exact j) (by omega) (by omega) (vE _) (by omega)
theorem Bga(a b:Int)(h:H):AB env .max [3,3] [.int .i64 a,.int .i64 b] h=some (.int .i64 (wg a b (Ba a b)),h):=by kernel_rfl
theorem c35{a:H}{n:Nat}{b:KV}(c:∀d f,AP a d→AH d f HJ [.int .i64 (vJ n)]→a.next.nat≤f.nat→f.nat<d.next.nat→b (.ptr f 0) d):W1 (.func 35) [.int .i64 (vJ n)] a b:=by refine w35 (n:=1) AJ (g35 ?_);unfold VV;rw[Are,Ad,CB];refine CA (by simp) ?_;refine newRow (e:=HJ) (cs:=[.int .i64 (vJ 0)]) rfl λg h i j=>?_;rw[Aj,Ad,Ae];have em:AB env .max [3,3] [.int .i64 (vJ n),.int .i64 (vJ 0)] g=some (.int .i64 (wg (vJ n) (vJ 0) (Ba (vJ n) (vJ 0))),g):=Bga _ _ _;rw[em,Cr,decide_eq_false (Nat.not_lt_zero _),Ad];show Ar .i64 (.int .i64 (vJ n)) _;rw[AG];refine c60 j λk l f3 r3=>?_;exact c k a.next (h.Gr (vE _) l f3) r3 (vE _) (by rw[l];omega)
theorem ic{a:Prop}(b:a):BE (.agg [D9,ET]) (.agg [D9,ET]) a:=by unfold BE;rw[show E6 4 (.agg [D9,ET]) (.agg [D9,ET])=true by kernel_rfl];exact b
theorem Aqy{n:Int}{a:Prop}(b:a):BE (.int .i64 n) (.int .i64 n) a:=C2 (.inr (.inl ⟨_,_,rfl⟩)) b
theorem Awt(h:H):AF env (env.ty THk) [(0,(.func (.func 15) [] [])),(1,(.func (.func 16) [] []))] h=some (.agg [D9,ET],h):=by kernel_rfl
end Go.Den
