/-
 Proof.
-/
import Derived.Test.YtmgalljhidgnoaaGreatDoorLpk
open Int renaming ofNat → vJ
open Nat renaming lt_of_lt_of_le → vZ, le_trans → vY, le_refl → vE, le_succ_of_le → yW, sub_zero → we, ble_eq_true_of_le → wY, add_sub_cancel → y8
open List renaming length_append → o7, drop_zero → yY, take_left' → yZ, take_length → xu, length_reverse → y9, append_nil → vi
noncomputable section
namespace Go.Den
open Go.RowKit
set_option maxRecDepth 100000
def BG(R:List (List U)):List (List U):=R.map λc=>c++[.Af]
theorem Gm(R:List (List U)):(BG R).length=R.length:=List.length_map ..
def Below(lo:Nat)(v:U):Prop:=∀q o n z b,v=.slice q o n z b→q.nat<lo
def fH:Tm:=Ai [(.int .i64 (vJ 0)),(.str 0 0),(.bool false),(.str 0 0),(.int .i64 (vJ 0)),(.int .i64 (vJ 0)),(.bool false),.Af,.Af] 0 .e
theorem hZ(a b c d e f g h j:U)(i:H):AE env 121 (λt k=>Ap 1 [(0,.agg [a,b,c,d,e,f,g,h,j])] i t k)=some (.slice i.next 0 1 9 true,i.new (.row (Ai [a,b,c,d,e,f,g,h,j] 0 fH) 9 0 Eo true)):=by kernel_rfl
theorem iL(x y:U)(h:H):AB env .append [121,121] [x,y] h=BK (some false) x y h Eo (DS Eo):=by kernel_rfl
theorem Ade:(DS Eo).size=9:=by kernel_rfl
theorem ZT{n:Nat}(a:n≤1099511627776):Bl (DS Eo) n=true:=G1 (by kernel_rfl) (by kernel_rfl) a
theorem Gu.l8{c:List U}(d:Gu c):c.length=8:=by obtain⟨kd,tx,f,g,h,a,b,e,_,_,_⟩:=d.ex;rw[e];rfl
def Hz(e:TypeId)(sz:Nat)(h:H)(v:U)(L:List (List U)):Prop:=(v=.Af∧L=[])∨∃q t m z w,v=.slice q 0 L.length sz false∧q.nat<h.next.nat∧h.at q=.row t m z e w∧L.length*sz≤m∧E5 sz 0 t L
theorem AY.r{e:TypeId}{sz lo:Nat}{h:H}{v:U}{L:List (List U)}(a:AY e sz lo h v L):Hz e sz h v L:=by
 rcases a with a|⟨q,t,m,z,w,b,_,c,d,f,_,g⟩
 · exact .inl a
 · exact .inr ⟨q,t,m,z,w,b,c,d,f,g⟩
theorem Hz.frame{e:TypeId}{sz:Nat}{h h':H}{v:U}{a:List (List U)}(b:Hz e sz h v a)(d:h.next.nat≤h'.next.nat)(f:∀c,c.nat<h.next.nat→(∀t g z i,h.at c=.row t g z e i→h'.at c=h.at c)):Hz e sz h' v a:=by
 rcases b with b|⟨q,t,g,z,i,j,k,l,m⟩
 · exact .inl b
 · exact .inr ⟨q,t,g,z,i,j,vZ k d,by rw[f q k _ _ _ _ l];exact l,m⟩
theorem Hz.OA{e:TypeId}{sz:Nat}{a:H}{v:U}{b:List (List U)}(c:Hz e sz a v b):CI sz a v b:=by
 rcases c with c|⟨q,t,d,z,f,g,h,i,j,k⟩
 · exact .inl c
 · exact .inr (Rd.row q 0 t d z e f false g h i (by rw[Nat.zero_add];exact j) k)
theorem Hz.len{e:TypeId}{sz:Nat}{a:H}{v:U}{b:List (List U)}(c:Hz e sz a v b){K:Nat→Prop}:Bz v K=K b.length:=c.OA.len
structure FV(lo:Nat)(h:H)(pR pN:P)(T:List (List U))(vo:U)(O:List (List U)):Prop where
 row:∃vt,AH h pR Mn [.ptr pN 0,.bool true,vt,vo]∧Hz Eo 9 h vt T∧Below lo vt
 out:AY Eo 9 lo h vo O
 nR:pR.nat<h.next.nat
 nl:lo≤h.next.nat
theorem FV.keep{lo:Nat}{b c:H}{d f:P}{g h:List (List U)}{i:U}(r:FV lo b d f g i h)(j:b.next.nat≤c.next.nat)(k:∀l,l.nat<b.next.nat→(∃t m z e n,b.at l=.row t m z e n∧(e=Eo∨e=Mn))→c.at l=b.at l):FV lo c d f g i h:=by obtain⟨o,p,q,r3⟩:=r.row;refine⟨⟨o,p.of (k _ r.nR ?_),q.frame j λl s t m z n e=>k l s ⟨t,m,z,_,n,e,.inl rfl⟩,r3⟩,r.out.frame j λl s _ t m z n e=>k l s ⟨t,m,z,_,n,e,.inl rfl⟩,vZ r.nR j,vY r.nl j⟩;obtain⟨t,a,_⟩:=p;exact⟨t,_,_,_,_,a,.inr rfl⟩
theorem FV.ext{lo:Nat}{h h':H}{a pN:P}{b d:List (List U)}{f:U}(r:FV lo h a pN b f d)(x:AP h h'):FV lo h' a pN b f d:=r.keep x.1 λc g _=>x.2 c g
section
variable{h:H}{pR pN pM pF pt pe:P}{w0 w1 w2:U}{L:Cn}{fu lo:Nat}{T O:List (List U)}{vo:U}
theorem c93(r:EF h pN pM pF pt pe w0 w1 w2 L fu)(b7:FV lo h pR pN T vo O)(b8:1≤fu)(c1:fu≤1000000)(c6:O.length≤1000000)(d0:pR.nat<lo){b:List U}(c:Gu b){b1:KV}(c0:∀u c4,CE (λb=>b=pF∨b=pR∨lo≤b.nat) h u→EF u pN pM pF pt pe w0 w1 w2 L (fu-1)→FV lo u pR pN T c4 (O++[b++[.Af]])→b1 (.tuple []) u):W1 (.func 93) [.ptr pR 0,.agg (b++[.Af])] h b1:=by
 have a1:(b++[U.Af]).length=9:=by rw[o7,c.l8];rfl
 refine w93 (n:=1) AJ (g93 ?_);unfold RO;rw[CB];refine CA (λe=>by rw[e] at a1;cases a1) ?_;refine newRow (e:=Eo) (cs:=b++[.Af]) rfl λb9 m d1 a3=>?_;have R2:=r.ext m;have G2:=b7.ext m;obtain⟨s,l,v,q3⟩:=G2.row;rw[Aj,Ad,Ae];refine l.Z (j:=1) (by show 1<4;decide) ?_;show Be (.bool true) _;rw[AL];refine F7 (λ_=>?_) (λe=>by cases e);rw[Aj,Ad,Ae];refine l.Z (j:=0) (by show 0<4;decide) ?_;rw[Ae];refine a3.A3 (o:=0) (ds:=b) c.l8 (by rw[yY,yZ];rfl) (by rw[c.l8];decide) ?_;show W1 (.func 130) [.ptr pN 0,.int .i64 (vJ 1),.agg b] b9 _;refine Bfj R2 b8 c1 c.l8 λi n R3=>?_;have G3:FV lo i pR pN T vo O:=G2.keep n.1 λb c ⟨t,d,z,e,f,a,o⟩=>n.2 b c λq=>by
  subst q;obtain⟨b2,g,_⟩:=R2.fuel;rw[a] at g;simp only[Ob.row.injEq] at g;have:=g.2.2.2.1;rcases o with o|o
  · rw[o] at this;exact absurd this (by decide)
  · rw[o] at this;exact absurd this (by decide)
 have r3:AH i h.next Eo (b++[.Af]):=a3.of (n.2 _ (by omega) (a3.ne R2.fuel (by decide)));obtain⟨s,l,v,q3⟩:=G3.row;rw[AL];refine By rfl ?_;rw[Aj,Ad,Ae];refine l.Z (j:=3) (by show 3<4;decide) ?_;show A3 9 (.ptr h.next 0) i _;refine r3.A3 (o:=0) (ds:=b++[.Af]) a1 (by rw[yY,xu]) (by omega) ?_;obtain⟨a0,a5,x,a4,a2,a,w,e,c7,c8,c9⟩:=c.ex;subst e;show oK (AE env 121 (λe b6=>Ap 1 [(0,.agg [.int .i64 (vJ a0),S a5,.bool a4,S x,.int .i64 a,.int .i64 w,.bool a2,.Af,.Af])] i e b6)) _;rw[hZ,Ad];have c5:AP i (i.new (.row (Ai [.int .i64 (vJ a0),S a5,.bool a4,S x,.int .i64 a,.int .i64 w,.bool a2,.Af,.Af] 0 fH) 9 0 Eo true)):=.new;refine(l.ext c5 G3.nR).Z (j:=3) (by show 3<4;decide) ?_;show BE vo vo _;rw[QO G3.out.sl,iL];refine LM (ds:=[.int .i64 (vJ a0),S a5,.bool a4,S x,.int .i64 a,.int .i64 w,.bool a2,.Af,.Af]) (.inr G3.out) rfl Ade (ZT (by omega)) G3.nl λb3 j a6 k5=>?_;have p:i.next.nat≤j.next.nat:=k5.1;have q5:AH j pR Mn [.ptr pN 0,.bool true,s,vo]:=l.GD k5 G3.nR (by decide);have R5:EF j pN pM pF pt pe w0 w1 w2 L (fu-1):=R3.keep p λb c c2 _=>k5.2 b c (.inr c2);have c3:Hz Eo 9 j s T:=by
  rcases v with v|⟨q,t,d,z,f,a7,a8,b4,b5⟩
  · exact .inl v
  · exact .inr ⟨q,t,d,z,f,a7,vZ a8 p,by rw[k5.2 q a8 (.inl (q3 _ _ _ _ _ a7))];exact b4,b5⟩
 rw[Aj,Ad,Ae];refine q5.BC (j:=3) (cs':=[.ptr pN 0,.bool true,s,b3]) (by show 3<4;decide) a6.one rfl λb0 k f6 r6=>?_;have a9:∀b,(∃t d z f,j.at b=.row t d z Eo f)→b0.at b=j.at b:=λb ⟨t,d,z,f,a⟩=>f6 b λe=>by subst e;obtain⟨b2,g,_⟩:=q5;rw[a] at g;cases g
 refine c0 b0 b3 ⟨by rw[k];exact vY m.1 (vY n.1 p),λb c y=>?_⟩ ?_ ?_
 · rw[f6 b λe=>y (.inr (.inl e)),k5.2 b (vZ c (vY m.1 n.1)) (.inl (by have:¬lo≤b.nat:=λq=>y (.inr (.inr q));omega)),n.2 b (vZ c m.1) λe=>y (.inl e),m.2 b c]
 · exact R5.keep (by rw[k];exact vE _) λb _ _ no=>f6 b λe=>by subst e;obtain⟨b2,g,_⟩:=q5;exact no _ _ _ _ g
 · refine⟨⟨s,r6,c3.frame (by rw[k];exact vE _) λb _ t d z f a=>a9 b ⟨t,d,z,f,a⟩,q3⟩,a6.frame (by rw[k];exact vE _) λb _ _ t d z f a=>a9 b ⟨t,d,z,f,a⟩,by rw[k];exact vZ G3.nR p,by rw[k];exact vY G3.nl p⟩
end
end Go.Den
namespace Go.Den
open Go.RowKit
set_option maxRecDepth 100000
abbrev ChG(a b c:P)(lo:Nat)(d:P):Prop:=d=a∨d=b∨d=c∨lo≤d.nat
section
variable{h:H}{pR pN pM pF pt pe:P}{w0 w1 w2:U}{L:Cn}{fu lo:Nat}{T O:List (List U)}{vo:U}
theorem ix(r:EF h pN pM pF pt pe w0 w1 w2 L fu)(b:FV lo h pR pN T vo O)(c:O.length≤1000000)(d:DI L O.length){f:List U}(g:Gu f){i:KV}(fin:∀{j:H}{L':Cn},CE (ChG pF pM pR lo) h j→EF j pN pM pF pt pe w0 w1 w2 L' fu→DI L' (O.length+1)→FV lo j pR pN T vo O→W1 (.func 93) [.ptr pR 0,.agg (f++[.Af])] j λ_ k=>i (.tuple []) k):W1 (.func 71) [.ptr pR 0,.agg (f++[.Af])] h i:=by
 have m:(f++[U.Af]).length=9:=by rw[o7,g.l8];rfl
 obtain⟨n,o,p,s,u,a,v,e,w,y,c⟩:=g.ex;refine w71 (n:=2) AJ (g71 ?_);unfold WO;rw[CB];refine CA (λe=>by rw[e] at m;cases m) ?_;refine newRow (e:=Eo) (cs:=f++[.Af]) rfl λi k c y=>?_;have R2:=r.ext k;have G2:=b.ext k;have c:f++[U.Af]=[.int .i64 (vJ n),S o,.bool s,S p,.int .i64 a,.int .i64 v,.bool u,.Af,.Af]:=by rw[e];rfl
 have b:AH i h.next Eo [.int .i64 (vJ n),S o,.bool s,S p,.int .i64 a,.int .i64 v,.bool u,.Af,.Af]:=by rw[←c];exact y
 have a0:DI L (O.length+1):=⟨d.ap,d.sh,yW d.len,λx a1=>yW (d.val x a1)⟩;rw[Ae,Ae];refine b.Z (j:=0) (by show 0<9;decide) ?_;show Ar .i64 (.int .i64 (vJ n)) _;rw[AG];by_cases a1:n=1
 · refine F7 (λ_=>?_) (λe=>by rw[a1] at e;cases e);rw[Ae];refine b.Z (j:=8) (by show 8<9;decide) ?_;rw[Ae,Ae];refine b.Z (j:=1) (by show 1<9;decide) ?_;show Bv (S o) λl f=>W1 (.func 92) [.Af,.str l f] i _;rw[CR];refine Ex (c92 _ _) ?_;rw[AL];refine AR rfl ?_;rw[Ae];refine y.A3 (o:=0) (ds:=f) g.l8 (by rw[yY,yZ];rfl) (by rw[g.l8];decide) ?_;refine c94 g λa2 a3=>?_;rw[Dw,Dt,AL];have R3:=R2.ext a3;have G3:=G2.ext a3;refine newRow (e:=Ci) (cs:=Fs) rfl λj a2 a4 a5=>?_;refine a5.CV (o:=0) (ds:=f) (cs':=f) g.l8 (by decide) (by show 0+8≤8;decide) (by rw[show Fs.drop (0+8)=[] from rfl];simp) λj g f5 r5=>?_;have X5:AP i j:=(a3.trans a2).Gr a3.1 g f5;have R5:=R2.ext X5;have G5:=G2.ext X5;obtain⟨i,g,a4,q3⟩:=G5.row;refine AR rfl ?_;rw[Aj,Ad,Ae];refine g.Z (j:=0) (by show 0<4;decide) ?_;show oK (Ag (.ptr pN 0) j) _;rw[Aj,Ad,Ae];refine R5.run.Z (j:=0) (by show 0<8;decide) ?_;show oV (Dh env .neq 96 (.ptr pt 0) .Bn) _;rw[Bho,Gn,AL];refine By rfl ?_;rw[Aj,Ad,Ae];refine g.Z (j:=0) (by show 0<4;decide) ?_;show oK (Ag (.ptr pN 0) j) _;rw[Aj,Ad,Ae];refine R5.run.Z (j:=5) (by show 5<8;decide) ?_;rw[Ae,Ae];have a5:AH j h.next Eo [.int .i64 (vJ n),S o,.bool s,S p,.int .i64 a,.int .i64 v,.bool u,.Af,.Af]:=b.ext X5 (by omega);refine a5.Z (j:=1) (by show 1<9;decide) ?_;show Bv (S o) λl f=>oK (BO env 100 (.map pM) (.str l f) false j) _;rw[CR];refine R5.used.add d (by omega) λb j f6 a2=>?_;have R6:=R5.Azj j f6 a2;have G6:FV lo b pR pN T vo O:=G5.keep (by rw[j];exact vE _) λf _ ⟨t,a3,z,e,a2,a,_⟩=>f6 f λq=>by subst q;have:=R5.used;unfold Ct at this;rw[a] at this;cases this
   have r6:AH b h.next Eo (f++[.Af]):=(y.ext X5 (by omega)).of (f6 _ λq=>by have:=R5.used;rw[←q] at this;exact a5.CT this);have a2:AH b h.next Eo [.int .i64 (vJ n),S o,.bool s,S p,.int .i64 a,.int .i64 v,.bool u,.Af,.Af]:=by rw[←c];exact r6
   have X6:CE (ChG pF pM pR lo) h b:=(k.trans X5).DV.trans ⟨by rw[j];exact vE _,λf _ p=>f6 f λe=>p (.inr (.inl e))⟩;obtain⟨i,g,a4,q3⟩:=G6.row;refine Avz ?_;unfold VA;rw[Aj,Ad,Ae];refine g.Z (j:=0) (by show 0<4;decide) ?_;show oK (Ag (.ptr pN 0) b) _;rw[Aj,Ad,Ae];refine R6.run.Z (j:=0) (by show 0<8;decide) ?_;rw[Ae,Ae];refine a2.Z (j:=1) (by show 1<9;decide) ?_;show Bv (S o) λl f=>W1 (.func 95) [.ptr pt 0,.str l f] b _;rw[CR];refine c95 R6 _ _ ?_;rw[Ban,Gn,AL];refine F7 (λe=>by cases e) (λ_=>?_);refine By rfl ?_;refine r6.A3 (o:=0) (ds:=f++[.Af]) m (by rw[yY,xu]) (by omega) ?_;exact fin X6 R6 (d.inc w) G6
 · have s:Bm (AN (vJ n) (vJ 1))=true:=by rw[DB,decide_eq_false a1];rfl
   rw[s];refine F7 (λe=>by cases e) (λ_=>?_);refine By rfl ?_;refine y.A3 (o:=0) (ds:=f++[.Af]) m (by rw[yY,xu]) (by omega) ?_;exact fin k.DV R2 a0 G2
theorem c71(r:EF h pN pM pF pt pe w0 w1 w2 L fu)(a:FV lo h pR pN T vo O)(b:1≤fu)(c:fu≤1000000)(d:O.length≤1000000)(f:pR.nat<lo)(g:DI L O.length){i:List U}(j:Gu i){k:KV}(l:∀m n L',CE (ChG pF pM pR lo) h m→EF m pN pM pF pt pe w0 w1 w2 L' (fu-1)→DI L' (O.length+1)→FV lo m pR pN T n (O++[i++[.Af]])→k (.tuple []) m):W1 (.func 71) [.ptr pR 0,.agg (i++[.Af])] h k:=by have o:∀{b p:H},CE (λi=>i=pF∨i=pR∨lo≤i.nat) b p→CE (ChG pF pM pR lo) b p:=λx=>x.weak λi q=>q.elim .inl λq=>.inr (.inr q);exact ix r a d g j λs R4 t G4=>c93 R4 G4 b c d f j λm n u R' G'=>l m n _ (s.trans (o u)) R' t G'
theorem c70(a:FV lo h pR pN T vo O)(b:T.length-1<T.length)(c:T.length≤1000000){it:List U}(hi:T[T.length-1]=it)(d:it.length=9){f:KV}(g:∀i,AP h i→f (.agg it) i):W1 (.func 70) [.ptr pR 0,.int .i64 (vJ 0)] h f:=by refine w70 (n:=1) AJ (g70 ?_);unfold Vn;refine newRow (e:=Eo) (cs:=Fs++[.Af]) rfl λj k l m=>?_;have G2:=a.ext k;obtain⟨n,p,r,q3⟩:=G2.row;rw[Aj,Ad,Ae];refine p.Z (j:=2) (by show 2<4;decide) ?_;rw[Aj,Ad,Ae];refine p.Z (j:=2) (by show 2<4;decide) ?_;show Bz n _;rw[r.len];refine JK (by omega) (by omega) (JK (Nat.zero_le _) (by omega) ?_);rw[we];refine Cy ?_;show A7 9 (T.length-1) n _;refine(r.OA.rd b).elem b λq o _ _ s=>?_;rw[hi] at s;refine s.A3 d ?_;refine m.CV (o:=0) (ds:=it) (cs':=it) d (by decide) (by show 0+9≤9;decide) (by rw[show(Fs++[U.Af]).drop (0+9)=[] from rfl];simp) λt u f3 r3=>?_;refine r3.A3 (o:=0) (ds:=it) d (by rw[yY,xu]) (by omega) ?_;exact g _ (k.Gr (vE _) u f3)
theorem Xz(q:P)(o n:Nat)(b:Bool)(k:Nat)(h:H):slice3 env h 121 (.slice q o n 9 b) none (some (Bf (.int .i64 (vJ k)))) none=C3 h (HK q o n 9 b 0 k none):=by kernel_rfl
end
end Go.Den
namespace Go.Den
open Go.RowKit
set_option maxRecDepth 100000
theorem Hz.Xz{a:H}{v:U}{b:List (List U)}(c:Hz Eo 9 a v b)(d:1≤b.length){K:KV}(f:∀g,Hz Eo 9 a g (b.take (b.length-1))→(∀q o n z h,g=.slice q o n z h→∃o n z h,v=.slice q o n z h)→g.one=true→K g a):oK (slice3 env a 121 v none (some (Bf (.int .i64 (vJ (b.length-1))))) none) K:=by
 rcases c with⟨_,rfl⟩|⟨q,t,i,z,j,rfl,k,l,m,p⟩
 · exact absurd d (by decide)
 · rw[Go.Den.Xz];unfold HK;rw[wY (Nat.zero_le _),wY (Nat.sub_le _ _)];show oK (some (.slice q (0+0*9) (b.length-1-0) 9 (An false (Nat.beq (b.length-1) b.length)),a)) _;rw[Ad,we];have r:(b.take (b.length-1)).length=b.length-1:=by rw[List.length_take];omega
   refine f _ (.inr ⟨q,t,i,z,j,by rw[r];rfl,k,l,by omega,λs hi=>?_⟩) (λu o n z h e=>?_) rfl
   · rw[r] at hi;rw[List.getElem_take];exact p s (by omega)
   · cases e;exact⟨_,_,_,_,rfl⟩
section
variable{pR pN pM pF pt pe:P}{w0 w1 w2:U}{lo:Nat}
theorem qz{w:H}(d5:lo=w.next.nat)(b8:pR.nat<lo){b7:KV}:∀(c:List (List U))(n:Nat){h:H}{s:Cn}{g:Nat}{x:U}{d:List (List U)},c.length<n→(∀b∈c,Gu b)→CE (λb=>b=pF∨b=pM∨b=pR) w h→EF h pN pM pF pt pe w0 w1 w2 s g→FV lo h pR pN (BG c).reverse x d→c.length≤g→g≤1000000→d.length+c.length≤1000000→DI s d.length→
    (∀a1 c3 L' b1,CE (λb=>b=pF∨b=pM∨b=pR) w a1→EF a1 pN pM pF pt pe w0 w1 w2 L' b1→FV lo a1 pR pN [] c3 (d++BG c)→DI L' (d++BG c).length→b1=g-c.length→b7 c3 a1)→
    (aO W1 b7 n).a1 (.ptr pR 0) h
  |_,0,_,_,_,_,_,b6,_,_,_,_,_,_,_,_,_=>absurd b6 (Nat.not_lt_zero _)
  |c,n+1,h,s,g,x,d,b6,b3,a8,r,a0,f0,d4,e9,b9,b4=>by
    refine cx ?_;unfold O6;obtain⟨a4,f,a3,q3⟩:=a0.row;rw[Aj,Ad,Ae];refine f.Z (j:=2) (by show 2<4;decide) ?_;show Bz a4 _;rw[a3.len,y9,Gm,Cr];cases c with
    |nil=>
      refine Dm (λe=>by cases e) (λ_=>?_);refine AR rfl ?_;rw[Aj,Ad,Ae];refine f.Z (j:=3) (by show 3<4;decide) ?_;refine b4 h x s g a8 r ?_ ?_ rfl
      · rw[show BG []=[] from rfl,vi];exact a0
      · rw[show BG []=[] from rfl,vi];exact b9
    |cons b c=>
      have i:=b3 b List.mem_cons_self;refine Dm (λ_=>?_) (λe=>by cases e);rw[Aj,Ad,Ae];refine f.Z (j:=0) (by show 0<4;decide) ?_;show oK (Ag (.ptr pN 0) h) _;rw[Aj,Ad,Ae];refine r.run.Z (j:=7) (by show 7<8;decide) ?_;show Be (.bool false) _;rw[AL];refine By rfl ?_;have b0:(BG (b::c)).reverse=(BG c).reverse++[b++[.Af]]:=by unfold BG;rw[List.map_cons,List.reverse_cons]
      have k:(BG (b::c)).reverse.length=c.length+1:=by rw[y9,Gm];rfl
      have a5:(b++[U.Af]).length=9:=by rw[o7,i.l8];rfl
      have f1:(b::c).length=c.length+1:=rfl;refine c70 a0 (by rw[k];omega) (by rw[k];omega) (it:=b++[.Af]) ?_ a5 λb2 a6=>?_
      · simp only[b0,o7,y9,List.length_singleton,y8];rw[List.getElem_append_right (by rw[y9];exact vE _)];simp
      have X2:=a8.trans a6.DV;have e0:=r.ext a6;have d1:=a0.ext a6;refine newRow (e:=Eo) (cs:=Fs++[.Af]) rfl λe8 e4 f3 r3=>?_;refine r3.CV (o:=0) (ds:=b++[.Af]) (cs':=b++[.Af]) a5 (by decide) (by show 0+9≤9;decide) (by rw[show(Fs++[U.Af]).drop (0+9)=[] from rfl];simp) λa2 d7 c9 c1=>?_;have a7:AP b2 a2:=e4.Gr (vE _) d7 c9;have X4:=X2.trans a7.DV;have u:=d1.ext a7;have R4:=e0.ext a7;obtain⟨a4,f,a3,q3⟩:=u.row;rw[Aj,Ad,Ae];refine f.Z (j:=2) (by show 2<4;decide) ?_;rw[Aj,Ad,Ae];refine f.Z (j:=2) (by show 2<4;decide) ?_;show Bz a4 _;rw[a3.len];refine JK (by rw[k];omega) (by rw[k];omega) ?_;show oK (slice3 env a2 121 a4 none (some (Bf (.int .i64 (vJ ((BG (b::c)).reverse.length-1))))) none) _;refine a3.Xz (by rw[k];omega) λc2 a9 d6 d8=>?_;rw[Aj,Ad,Ae];refine f.BC (j:=2) (cs':=[.ptr pN 0,.bool true,c2,x]) (by show 2<4;decide) d8 rfl λv m f6 r6=>?_;have c7:(BG (b::c)).reverse.take ((BG (b::c)).reverse.length-1)=(BG c).reverse:=by rw[k,y8,b0,yZ];rw[y9,Gm]
      rw[c7] at a9;have f4:=u.nR;have fI:∀b,(∃t l z p,a2.at b=.row t l z Eo p)→v.at b=a2.at b:=λb ⟨t,l,z,p,a⟩=>f6 b λe=>by subst e;obtain⟨e2,y,_⟩:=f;rw[a] at y;cases y
      have g6:FV lo v pR pN (BG c).reverse x d:=⟨⟨c2,r6,a9.frame (by rw[m];exact vE _) λb _ t l z p a=>fI b ⟨t,l,z,p,a⟩,λq o n z c5 e=>by obtain⟨f5,f2,f8,e6,c6⟩:=d6 q o n z c5 e;exact q3 _ _ _ _ _ c6⟩,u.out.frame (by rw[m];exact vE _) λb _ _ t l z p a=>fI b ⟨t,l,z,p,a⟩,by rw[m];exact u.nR,by rw[m];exact u.nl⟩;have R6:EF v pN pM pF pt pe w0 w1 w2 s g:=R4.keep (by rw[m];exact vE _) λb _ _ no=>f6 b λe=>by subst e;obtain⟨e2,y,_⟩:=f;exact no _ _ _ _ y
      have X6:CE (λb=>b=pF∨b=pM∨b=pR) w v:=X4.trans ⟨by rw[m];exact vE _,λb _ j=>f6 b λe=>j (.inr (.inr e))⟩;have e1:AH v b2.next Eo (b++[.Af]):=c1.of (f6 _ λe=>by have:=c1.ne f (by decide);exact this e);refine e1.A3 (o:=0) (ds:=b++[.Af]) a5 (by rw[yY,xu]) (by omega) ?_;have b5:(d++[b++[U.Af]]).length=d.length+1:=by rw[o7];rfl
      refine c71 R6 g6 (by omega) d4 (by omega) b8 b9 i λd2 f7 L7 c4 R7 d9 g7=>?_;have X7:CE (λb=>b=pF∨b=pM∨b=pR) w d2:=⟨vY X6.1 c4.1,λb i j=>by
        rw[c4.2 b (vZ i X6.1) λq=>?_,X6.2 b i j];rcases q with q|q|q|q
        · exact j (.inl q)
        · exact j (.inr (.inl q))
        · exact j (.inr (.inr q))
        · omega⟩
      refine qz d5 b8 c n (by omega) (λb i=>b3 b (List.mem_cons_of_mem _ i)) X7 R7 g7 (by omega) (by omega) (by rw[b5];omega) (by rw[b5];exact d9) λd3 e3 L8 d0 e5 R8 g8 c0 e7=>?_;have c8:d++[b++[U.Af]]++BG c=d++BG (b::c):=by rw[List.append_assoc];rfl
      rw[c8] at g8 c0;exact b4 d3 e3 L8 d0 e5 R8 g8 c0 (by omega)
theorem c42{a:H}(b:pR.nat<a.next.nat){c:List (List U)}(d:∀f∈c,Gu f){g:Nat}(r:EF a pN pM pF pt pe w0 w1 w2 [] g)(h:FV a.next.nat a pR pN (BG c).reverse .Af [])(i:c.length≤g)(j:g≤1000000){k:KV}
 (l:∀m n L' o,CE (λf=>f=pF∨f=pM∨f=pR) a m→EF m pN pM pF pt pe w0 w1 w2 L' o→FV a.next.nat m pR pN [] n (BG c)→DI L' (BG c).length→o=g-c.length→k n m):W1 (.func 42) [.ptr pR 0] a k:=by
 refine w42 (n:=c.length+2) AJ (g42 ?_);unfold SC;exact qz rfl b c _ (by omega) d .refl r h i j (by rw[List.length_nil];omega) .nil l
end
end Go.Den
