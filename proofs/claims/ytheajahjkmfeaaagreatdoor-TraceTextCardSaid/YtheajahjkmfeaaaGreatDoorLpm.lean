/-
 Proof.
-/
import Derived.Test.YtheajahjkmfeaaaGreatDoorLpk
noncomputable section
namespace Go.Den
open Go.RowKit
set_option maxRecDepth 100000
def its(R:List (List AV)):List (List AV):=R.map fun c=>c++[.Ai]
theorem Mk(R:List (List AV)):(its R).length=R.length:=List.length_map ..
def Below(lo:Nat)(v:AV):Prop:=∀q o n z b,v=.slice q o n z b→q.nat<lo
def A2l:Tm:=Aj [(.int .i64 (Int.ofNat 0)),(.str 0 0),(.bool false),(.str 0 0),(.int .i64 (Int.ofNat 0)),(.int .i64 (Int.ofNat 0)),(.bool false),.Ai,.Ai] 0 .e
theorem Axy(a b c d e f g i j:AV)(h:H):Ap env 116 (fun t ei=>Ak 1 [(0,.agg [a,b,c,d,e,f,g,i,j])] h t ei)=some (.slice h.next 0 1 9 true,h.new (.row (Aj [a,b,c,d,e,f,g,i,j] 0 A2l) 9 0 TIt true)):=by kernel_rfl
theorem Ayn(x y:AV)(h:H):Ar env .append [116,116] [x,y] h=Co (some false) x y h TIt (Hz TIt):=by kernel_rfl
theorem A2s:(Hz TIt).size=9:=by kernel_rfl
theorem Ap9{n:Nat}(hn:n≤1099511627776):Bv (Hz TIt) n=true:=Lv (by kernel_rfl) (by kernel_rfl) hn
theorem Tkp.l8{c:List AV}(hc:Tkp c):c.length=8:=by
 obtain⟨kd,tx,fl,sp,md,a,b,e,_,_,_⟩:=hc.ex
 rw[e];rfl
def Tw(e:TypeId)(sz:Nat)(h:H)(v:AV)(L:List (List AV)):Prop:=(v=.Ai∧L=[])∨∃q t m z w,v=.slice q 0 L.length sz false∧q.nat<h.next.nat∧h.at q=.row t m z e w∧L.length*sz≤m∧Ld sz 0 t L
theorem Cb.r{e:TypeId}{sz lo:Nat}{h:H}{v:AV}{L:List (List AV)}(hb:Cb e sz lo h v L):Tw e sz h v L:=by
 rcases hb with hb|⟨q,t,m,z,w,e1,_,e3,e4,e5,_,e7⟩
 · exact .inl hb
 · exact .inr ⟨q,t,m,z,w,e1,e3,e4,e5,e7⟩
theorem Tw.frame{e:TypeId}{sz:Nat}{h h':H}{v:AV}{L:List (List AV)}(hb:Tw e sz h v L)(hn:h.next.nat≤h'.next.nat)(hf:∀c,c.nat<h.next.nat→(∀t m z w,h.at c=.row t m z e w→h'.at c=h.at c)):Tw e sz h' v L:=by
 rcases hb with hb|⟨q,t,m,z,w,e1,e3,e4,e5⟩
 · exact .inl hb
 · exact .inr ⟨q,t,m,z,w,e1,Nat.lt_of_lt_of_le e3 hn,by rw[hf q e3 _ _ _ _ e4];exact e4,e5⟩
theorem Tw.slr{e:TypeId}{sz:Nat}{h:H}{v:AV}{L:List (List AV)}(hb:Tw e sz h v L):SlR sz h v L:=by
 rcases hb with hb|⟨q,t,m,z,w,e1,e3,e4,e5,e6⟩
 · exact .inl hb
 · exact .inr (Rd.row q 0 t m z e w false e1 e3 e4 (by rw[Nat.zero_add];exact e5) e6)
theorem Tw.len{e:TypeId}{sz:Nat}{h:H}{v:AV}{L:List (List AV)}(hb:Tw e sz h v L){K:Nat→Prop}:Cz v K=K L.length:=hb.slr.len
structure Rrw(lo:Nat)(h:H)(pR pN:P)(T:List (List AV))(vo:AV)(O:List (List AV)):Prop where
 row:∃vt,Cd h pR TRo [.ptr pN 0,.bool true,vt,vo]∧Tw TIt 9 h vt T∧Below lo vt
 out:Cb TIt 9 lo h vo O
 nR:pR.nat<h.next.nat
 nl:lo≤h.next.nat
theorem Rrw.keep{lo:Nat}{h h':H}{pR pN:P}{T O:List (List AV)}{vo:AV}(r:Rrw lo h pR pN T vo O)(hn:h.next.nat≤h'.next.nat)(hf:∀c,c.nat<h.next.nat→(∃t m z e w,h.at c=.row t m z e w∧(e=TIt∨e=TRo))→h'.at c=h.at c):Rrw lo h' pR pN T vo O:=by
 obtain⟨vt,r1,r2,r3⟩:=r.row
 refine⟨⟨vt,r1.of (hf _ r.nR ?_),r2.frame hn fun c hc t m z w e=>hf c hc ⟨t,m,z,_,w,e,.inl rfl⟩,r3⟩,r.out.frame hn fun c hc _ t m z w e=>hf c hc ⟨t,m,z,_,w,e,.inl rfl⟩,Nat.lt_of_lt_of_le r.nR hn,Nat.le_trans r.nl hn⟩
 obtain⟨t,a,_⟩:=r1
 exact⟨t,_,_,_,_,a,.inr rfl⟩
theorem Rrw.ext{lo:Nat}{h h':H}{pR pN:P}{T O:List (List AV)}{vo:AV}(r:Rrw lo h pR pN T vo O)(x:Exh h h'):Rrw lo h' pR pN T vo O:=r.keep x.1 fun c hc _=>x.2 c hc
section
variable{h:H}{pR pN pM pF pt pe:P}{w0 w1 w2:AV}{L:Cn}{fu lo:Nat}{T O:List (List AV)}{vo:AV}
theorem c88(r:Rnn h pN pM pF pt pe w0 w1 w2 L fu)(g:Rrw lo h pR pN T vo O)(h1:1≤fu)(hn:fu≤1000000)(hO:O.length≤1000000)(lR:pR.nat<lo){c:List AV}(hc:Tkp c){k:KV}(hk:∀h' vo',FrX (fun c=>c=pF∨c=pR∨lo≤c.nat) h h'→Rnn h' pN pM pF pt pe w0 w1 w2 L (fu-1)→Rrw lo h' pR pN T vo' (O++[c++[.Ai]])→k (.tuple []) h'):W1 (.func 88) [.ptr pR 0,.agg (c++[.Ai])] h k:=by
 have l9:(c++[AV.Ai]).length=9:=by rw[List.length_append,hc.l8];rfl
 refine w88 (n:=1) Bg (g88 ?_)
 unfold Amo
 rw[Fu]
 refine Ft (fun e=>by rw[e] at l9;cases l9) ?_
 refine newRow (e:=TIt) (cs:=c++[.Ai]) rfl fun h2 x2 n2 r2=>?_
 have R2:=r.ext x2
 have G2:=g.ext x2
 obtain⟨vt,q1,q2,q3⟩:=G2.row
 rw[Am,Ad,Ae]
 refine q1.ld1 (j:=1) (by show 1<4;decide) ?_
 show asB (.bool true) _
 rw[Bn]
 refine Qe (fun _=>?_) (fun e=>by cases e)
 rw[Am,Ad,Ae]
 refine q1.ld1 (j:=0) (by show 0<4;decide) ?_
 rw[Ae]
 refine r2.ldn (o:=0) (ds:=c) hc.l8 (by rw[List.drop_zero,List.take_left'];rfl) (by rw[hc.l8];decide) ?_
 show W1 (.func 123) [.ptr pN 0,.int .i64 (Int.ofNat 1),.agg c] h2 _
 refine Bo6 R2 h1 hn hc.l8 fun h3 x3 R3=>?_
 have G3:Rrw lo h3 pR pN T vo O:=G2.keep x3.1 fun c hc ⟨t,m,z,e,w,a,he⟩=>x3.2 c hc fun q=>by
  subst q
  obtain⟨t',a',_⟩:=R2.fuel
  rw[a] at a'
  simp only[Ob.row.injEq] at a'
  have:=a'.2.2.2.1
  rcases he with he|he
  · rw[he] at this;exact absurd this (by decide)
  · rw[he] at this;exact absurd this (by decide)
 have r3:Cd h3 h.next TIt (c++[.Ai]):=r2.of (x3.2 _ (by omega) (r2.ne R2.fuel (by decide)))
 obtain⟨vt,q1,q2,q3⟩:=G3.row
 rw[Bn]
 refine Dp rfl ?_
 rw[Am,Ad,Ae]
 refine q1.ld1 (j:=3) (by show 3<4;decide) ?_
 show ldn 9 (.ptr h.next 0) h3 _
 refine r3.ldn (o:=0) (ds:=c++[.Ai]) l9 (by rw[List.drop_zero,List.take_length]) (by omega) ?_
 obtain⟨kd,tx,fl,sp,md,a,b,e,ht1,ht2,ht3⟩:=hc.ex
 subst e
 show oK (Ap env 116 (fun e ei=>Ak 1 [(0,.agg [.int .i64 (Int.ofNat kd),S tx,.bool sp,S fl,.int .i64 a,.int .i64 b,.bool md,.Ai,.Ai])] h3 e ei)) _
 rw[Axy,Ad]
 have x4:Exh h3 (h3.new (.row (Aj [.int .i64 (Int.ofNat kd),S tx,.bool sp,S fl,.int .i64 a,.int .i64 b,.bool md,.Ai,.Ai] 0 A2l) 9 0 TIt true)):=.new
 refine(q1.ext x4 G3.nR).ld1 (j:=3) (by show 3<4;decide) ?_
 show eqC vo vo _
 rw[Agc G3.out.sl,Ayn]
 refine Po (ds:=[.int .i64 (Int.ofNat kd),S tx,.bool sp,S fl,.int .i64 a,.int .i64 b,.bool md,.Ai,.Ai]) (.inr G3.out) rfl A2s (Ap9 (by omega)) G3.nl fun v5 h5 b5 k5=>?_
 have m5:h3.next.nat≤h5.next.nat:=k5.1
 have q5:Cd h5 pR TRo [.ptr pN 0,.bool true,vt,vo]:=q1.kps k5 G3.nR (by decide)
 have R5:Rnn h5 pN pM pF pt pe w0 w1 w2 L (fu-1):=R3.keep m5 fun c hc ni _=>k5.2 c hc (.inr ni)
 have t5:Tw TIt 9 h5 vt T:=by
  rcases q2 with q2|⟨q,t,m,z,w,e1,e3,e4,e5⟩
  · exact .inl q2
  · exact .inr ⟨q,t,m,z,w,e1,Nat.lt_of_lt_of_le e3 m5,by rw[k5.2 q e3 (.inl (q3 _ _ _ _ _ e1))];exact e4,e5⟩
 rw[Am,Ad,Ae]
 refine q5.st1 (j:=3) (cs':=[.ptr pN 0,.bool true,vt,v5]) (by show 3<4;decide) b5.one rfl fun h6 n6 f6 r6=>?_
 have fe:∀c,(∃t m z w,h5.at c=.row t m z TIt w)→h6.at c=h5.at c:=fun c ⟨t,m,z,w,a⟩=>f6 c fun e=>by
  subst e
  obtain⟨t',a',_⟩:=q5
  rw[a] at a';cases a'
 refine hk h6 v5 ⟨by rw[n6];exact Nat.le_trans x2.1 (Nat.le_trans x3.1 m5),fun c hc hne=>?_⟩ ?_ ?_
 · rw[f6 c fun e=>hne (.inr (.inl e)),k5.2 c (Nat.lt_of_lt_of_le hc (Nat.le_trans x2.1 x3.1)) (.inl (by have:¬lo≤c.nat:=fun q=>hne (.inr (.inr q));omega)),x3.2 c (Nat.lt_of_lt_of_le hc x2.1) fun e=>hne (.inl e),x2.2 c hc]
 · exact R5.keep (by rw[n6];exact Nat.le_refl _) fun c _ _ no=>f6 c fun e=>by
    subst e
    obtain⟨t',a',_⟩:=q5
    exact no _ _ _ _ a'
 · refine⟨⟨vt,r6,t5.frame (by rw[n6];exact Nat.le_refl _) fun c _ t m z w a=>fe c ⟨t,m,z,w,a⟩,q3⟩,b5.frame (by rw[n6];exact Nat.le_refl _) fun c _ _ t m z w a=>fe c ⟨t,m,z,w,a⟩,by rw[n6];exact Nat.lt_of_lt_of_le G3.nR m5,by rw[n6];exact Nat.le_trans G3.nl m5⟩
end
end Go.Den
namespace Go.Den
open Go.RowKit
set_option maxRecDepth 100000
abbrev ChG(pF pM pR:P)(lo:Nat)(c:P):Prop:=c=pF∨c=pM∨c=pR∨lo≤c.nat
section
variable{h:H}{pR pN pM pF pt pe:P}{w0 w1 w2:AV}{L:Cn}{fu lo:Nat}{T O:List (List AV)}{vo:AV}
theorem c66(r:Rnn h pN pM pF pt pe w0 w1 w2 L fu)(g:Rrw lo h pR pN T vo O)(h1:1≤fu)(hn:fu≤1000000)(hO:O.length≤1000000)(lR:pR.nat<lo)(ok:Le L O.length){c:List AV}(hc:Tkp c){k:KV}(hk:∀h' vo' L',FrX (ChG pF pM pR lo) h h'→Rnn h' pN pM pF pt pe w0 w1 w2 L' (fu-1)→Le L' (O.length+1)→Rrw lo h' pR pN T vo' (O++[c++[.Ai]])→k (.tuple []) h'):W1 (.func 66) [.ptr pR 0,.agg (c++[.Ai])] h k:=by
 have l9:(c++[AV.Ai]).length=9:=by rw[List.length_append,hc.l8];rfl
 obtain⟨kd,tx,fl,sp,md,a,b,e,ht1,ht2,ht3⟩:=hc.ex
 have wk:∀{h1 h2:H},FrX (fun c=>c=pF∨c=pR∨lo≤c.nat) h1 h2→FrX (ChG pF pM pR lo) h1 h2:=fun x=>x.weak fun c q=>q.elim .inl fun q=>.inr (.inr q)
 refine w66 (n:=2) Bg (g66 ?_)
 unfold Am9
 rw[Fu]
 refine Ft (fun e=>by rw[e] at l9;cases l9) ?_
 refine newRow (e:=TIt) (cs:=c++[.Ai]) rfl fun h2 x2 n2 r2=>?_
 have R2:=r.ext x2
 have G2:=g.ext x2
 have cc:c++[AV.Ai]=[.int .i64 (Int.ofNat kd),S tx,.bool sp,S fl,.int .i64 a,.int .i64 b,.bool md,.Ai,.Ai]:=by rw[e];rfl
 have r2':Cd h2 h.next TIt [.int .i64 (Int.ofNat kd),S tx,.bool sp,S fl,.int .i64 a,.int .i64 b,.bool md,.Ai,.Ai]:=by rw[←cc];exact r2
 have okm:Le L (O.length+1):=⟨ok.ap,ok.sh,Nat.le_succ_of_le ok.len,fun x hx=>Nat.le_succ_of_le (ok.val x hx)⟩
 rw[Ae,Ae]
 refine r2'.ld1 (j:=0) (by show 0<9;decide) ?_
 show asI .i64 (.int .i64 (Int.ofNat kd)) _
 rw[Bj]
 have fin:∀{h4:H}{L':Cn},FrX (ChG pF pM pR lo) h h4→Rnn h4 pN pM pF pt pe w0 w1 w2 L' fu→Le L' (O.length+1)→Rrw lo h4 pR pN T vo O→W1 (.func 88) [.ptr pR 0,.agg (c++[.Ai])] h4 fun _ h'=>k (.tuple []) h':=fun x4 R4 ok4 G4=>c88 R4 G4 h1 hn hO lR hc fun h' vo' x' R' G'=>hk h' vo' _ (x4.trans (wk x')) R' ok4 G'
 by_cases hk1:kd=1
 · refine Qe (fun _=>?_) (fun e=>by rw[hk1] at e;cases e)
   rw[Ae]
   refine r2'.ld1 (j:=8) (by show 8<9;decide) ?_
   rw[Ae,Ae]
   refine r2'.ld1 (j:=1) (by show 1<9;decide) ?_
   show asS (S tx) fun l c=>W1 (.func 87) [.Ai,.str l c] h2 _
   rw[Eg]
   refine Lj (c87 _ _) ?_
   rw[Bn]
   refine Cp rfl ?_
   rw[Ae]
   refine r2.ldn (o:=0) (ds:=c) hc.l8 (by rw[List.drop_zero,List.take_left'];rfl) (by rw[hc.l8];decide) ?_
   refine c89 hc fun h3 x3=>?_
   rw[Hu,Ht,Bn]
   have R3:=R2.ext x3
   have G3:=G2.ext x3
   refine newRow (e:=TTk) (cs:=Na) rfl fun h4 x4 n4 r4=>?_
   refine r4.stn (o:=0) (ds:=c) (cs':=c) hc.l8 (by decide) (by show 0+8≤8;decide) (by rw[show Na.drop (0+8)=[] from rfl];simp) fun h5 n5 f5 r5=>?_
   have X5:Exh h2 h5:=(x3.trans x4).Sm x3.1 n5 f5
   have R5:=R2.ext X5
   have G5:=G2.ext X5
   obtain⟨vt,q1,q2,q3⟩:=G5.row
   refine Cp rfl ?_
   rw[Am,Ad,Ae]
   refine q1.ld1 (j:=0) (by show 0<4;decide) ?_
   show oK (Ag (.ptr pN 0) h5) _
   rw[Am,Ad,Ae]
   refine R5.run.ld1 (j:=0) (by show 0<8;decide) ?_
   show oV (Hh env .neq 91 (.ptr pt 0) .Cm) _
   rw[Bms,Oj,Bn]
   refine Dp rfl ?_
   rw[Am,Ad,Ae]
   refine q1.ld1 (j:=0) (by show 0<4;decide) ?_
   show oK (Ag (.ptr pN 0) h5) _
   rw[Am,Ad,Ae]
   refine R5.run.ld1 (j:=5) (by show 5<8;decide) ?_
   rw[Ae,Ae]
   have r5':Cd h5 h.next TIt [.int .i64 (Int.ofNat kd),S tx,.bool sp,S fl,.int .i64 a,.int .i64 b,.bool md,.Ai,.Ai]:=r2'.ext X5 (by omega)
   refine r5'.ld1 (j:=1) (by show 1<9;decide) ?_
   show asS (S tx) fun l c=>oK (Db env 95 (.map pM) (.str l c) false h5) _
   rw[Eg]
   refine R5.used.add ok (by omega) fun h6 n6 f6 c6=>?_
   have R6:=R5.Bmi n6 f6 c6
   have G6:Rrw lo h6 pR pN T vo O:=G5.keep (by rw[n6];exact Nat.le_refl _) fun c _ ⟨t,m,z,e,w,a,_⟩=>f6 c fun q=>by
    subst q
    have:=R5.used
    unfold IsC at this
    rw[a] at this;cases this
   have r6:Cd h6 h.next TIt (c++[.Ai]):=(r2.ext X5 (by omega)).of (f6 _ fun q=>by
    have:=R5.used
    rw[←q] at this
    exact r5'.Hy this)
   have r6':Cd h6 h.next TIt [.int .i64 (Int.ofNat kd),S tx,.bool sp,S fl,.int .i64 a,.int .i64 b,.bool md,.Ai,.Ai]:=by rw[←cc];exact r6
   have X6:FrX (ChG pF pM pR lo) h h6:=(x2.trans X5).frx.trans ⟨by rw[n6];exact Nat.le_refl _,fun c _ hne=>f6 c fun e=>hne (.inr (.inl e))⟩
   obtain⟨vt,q1,q2,q3⟩:=G6.row
   refine Bet ?_
   unfold Am8
   rw[Am,Ad,Ae]
   refine q1.ld1 (j:=0) (by show 0<4;decide) ?_
   show oK (Ag (.ptr pN 0) h6) _
   rw[Am,Ad,Ae]
   refine R6.run.ld1 (j:=0) (by show 0<8;decide) ?_
   rw[Ae,Ae]
   refine r6'.ld1 (j:=1) (by show 1<9;decide) ?_
   show asS (S tx) fun l c=>W1 (.func 90) [.ptr pt 0,.str l c] h6 _
   rw[Eg]
   refine c90 R6 _ _ ?_
   rw[Bn5,Oj,Bn]
   refine Qe (fun e=>by cases e) (fun _=>?_)
   refine Dp rfl ?_
   refine r6.ldn (o:=0) (ds:=c++[.Ai]) l9 (by rw[List.drop_zero,List.take_length]) (by omega) ?_
   exact fin X6 R6 (ok.inc ht1) G6
 · have en:Ci (Bx (Int.ofNat kd) (Int.ofNat 1))=true:=by rw[Wx,decide_eq_false hk1];rfl
   rw[en]
   refine Qe (fun e=>by cases e) (fun _=>?_)
   refine Dp rfl ?_
   refine r2.ldn (o:=0) (ds:=c++[.Ai]) l9 (by rw[List.drop_zero,List.take_length]) (by omega) ?_
   exact fin x2.frx R2 okm G2
theorem c65(g:Rrw lo h pR pN T vo O)(hT:T.length-1<T.length)(hl:T.length≤1000000){it:List AV}(hi:T[T.length-1]=it)(h9:it.length=9){k:KV}(hk:∀h',Exh h h'→k (.agg it) h'):W1 (.func 65) [.ptr pR 0,.int .i64 (Int.ofNat 0)] h k:=by
 refine w65 (n:=1) Bg (g65 ?_)
 unfold Ana
 refine newRow (e:=TIt) (cs:=Na++[.Ai]) rfl fun h2 x2 n2 r2=>?_
 have G2:=g.ext x2
 obtain⟨vt,q1,q2,q3⟩:=G2.row
 rw[Am,Ad,Ae]
 refine q1.ld1 (j:=2) (by show 2<4;decide) ?_
 rw[Am,Ad,Ae]
 refine q1.ld1 (j:=2) (by show 2<4;decide) ?_
 show Cz vt _
 rw[q2.len]
 refine Xa (by omega) (by omega) (Xa (Nat.zero_le _) (by omega) ?_)
 rw[Nat.sub_zero]
 refine Dg ?_
 show Cc 9 (T.length-1) vt _
 refine(q2.slr.rd hT).elem hT fun q o _ _ ha=>?_
 rw[hi] at ha
 refine ha.ldn h9 ?_
 refine r2.stn (o:=0) (ds:=it) (cs':=it) h9 (by decide) (by show 0+9≤9;decide) (by rw[show(Na++[AV.Ai]).drop (0+9)=[] from rfl];simp) fun h3 n3 f3 r3=>?_
 refine r3.ldn (o:=0) (ds:=it) h9 (by rw[List.drop_zero,List.take_length]) (by omega) ?_
 exact hk _ (x2.Sm (Nat.le_refl _) n3 f3)
theorem Awx(q:P)(o n:Nat)(b:Bool)(k:Nat)(h:H):slice3 env h 116 (.slice q o n 9 b) none (some (Bp (.int .i64 (Int.ofNat k)))) none=Fm h (Ma q o n 9 b 0 k none):=by kernel_rfl
end
end Go.Den
