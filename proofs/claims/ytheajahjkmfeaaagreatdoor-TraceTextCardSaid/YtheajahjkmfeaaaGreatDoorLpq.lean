/-
 Proof.
-/
import Derived.Test.YtheajahjkmfeaaaGreatDoorLpo
namespace Go.Den
open Go.RowKit
set_option maxRecDepth 100000
abbrev TOu:TypeId:=111
theorem Rnn.frx{h h':H}{pN pM pF pt pe:P}{w0 w1 w2:AV}{L:Cn}{fu:Nat}{X:P→Prop}(r:Rnn h pN pM pF pt pe w0 w1 w2 L fu)(x:FrX X h h')(h1:¬X pN)(h2:¬X pM)(h3:¬X pF)(h4:¬X pt)(h5:¬X pe):Rnn h' pN pM pF pt pe w0 w1 w2 L fu:=by
 have eM:h'.at pM=h.at pM:=x.2 _ r.nM h2
 have eE:h'.at pe=h.at pe:=x.2 _ r.ne h5
 exact⟨r.run.of (x.2 _ r.nN h1),r.fuel.of (x.2 _ r.nF h3),by unfold IsC;rw[eM];exact r.used,r.tab.of (x.2 _ r.nt h4),by rw[eE];exact r.emp,Nat.lt_of_lt_of_le r.nN x.1,Nat.lt_of_lt_of_le r.nM x.1,Nat.lt_of_lt_of_le r.nF x.1,Nat.lt_of_lt_of_le r.nt x.1,Nat.lt_of_lt_of_le r.ne x.1,r.em⟩
theorem A03{R:List (List AV)}{i:Nat}(h:i<R.length)(h':i<(its R).length):(its R)[i]=R[i]++[.Ai]:=List.getElem_map (fun c=>c++[AV.Ai]) (h:=h')
theorem Bjr{c:List AV}(hc:Tkp c)(h:H):Ap env 30 (fun t ei=>Ak 1 [(0,.agg c)] h t ei)=some (.slice h.next 0 1 8 true,h.new (.row (Aj c 0 Z44) 8 0 TTk true)):=by
 obtain⟨kd,tx,fl,sp,md,a,b',e,_⟩:=hc.ex
 subst e
 exact A4b _ _ _ _ _ _ _ _ _
theorem A4a {h0 : H} {p4 p19 : P} {vo : AV} {R : List (List AV)} (hR : ∀ c ∈ R, Tkp c) (hl : R.length ≤ 1000000) (hv : Tw TIt 9 h0 vo (its R)) (n4 : p4.nat < h0.next.nat) (e4 : ∃ cs, Cd h0 p4 TOu cs) {k : KV} {n0 : Nat}
    (hk : ∀ h' vt, FrX (fun c => c = p4) h0 h' → Cd h' p4 TOu [vt, .Ai, .bool false, .Ai] → Cb TTk 8 h0.next.nat h' vt R → (r18 W1 k (0 + n0)).a1 (.ptr p4 0) (.ptr p19 0) vo (Int.ofNat R.length) (Int.ofNat R.length) h') :
    ∀ (m i : Nat) {h : H} {vt : AV}, R.length - i = m → i ≤ R.length → FrX (fun c => c = p4) h0 h → Cd h p4 TOu [vt, .Ai, .bool false, .Ai] → Cb TTk 8 h0.next.nat h vt (R.take i) → (r18 W1 k (m + n0)).a1 (.ptr p4 0) (.ptr p19 0) vo (Int.ofNat R.length) (Int.ofNat i) h
  | 0, i, h, vt, hm, hi, x, r4, b => by
    have e : i = R.length := by omega
    subst e
    rw [List.take_length] at b
    exact hk h vt x r4 b
  | m + 1, i, h, vt, hm, hi, x, r4, b => by
    have hi' : i < R.length := by omega
    have hii : i < (its R).length := by rw [Mk]; exact hi'
    have hc := hR _ (List.getElem_mem hi')
    have hn := x.1
    rw [show m + 1 + n0 = (m + n0) + 1 by omega]
    refine A3j ?_
    unfold Ahr
    rw [ilt, decide_eq_true hi']
    refine Dp rfl (Dg ?_)
    have vh : Tw TIt 9 h vo (its R) := hv.frame hn fun c hc t m z w e => x.2 c hc fun q => by
      subst q
      obtain ⟨cs, t', a', _⟩ := e4
      rw [e] at a'; cases a'
    refine (vh.slr.rd hii).elem hii fun q o _ _ ha => ?_
    rw [A03 hi' hii] at ha
    have l9 : (R[i] ++ [AV.Ai]).length = 9 := by rw [List.length_append, hc.l8]; rfl
    refine ha.ldn l9 ?_
    refine newRow (e := TIt) (cs := Na ++ [.Ai]) rfl fun h2 x2 n2 r2 => ?_
    refine r2.stn (o := 0) (ds := R[i] ++ [.Ai]) (cs' := R[i] ++ [.Ai]) l9 (by decide) (by show 0 + 9 ≤ 9; decide) (by rw [show (Na ++ [AV.Ai]).drop (0 + 9) = [] from rfl]; simp) fun h3 n3 f3 r3 => ?_
    have X3 : Exh h h3 := x2.Sm (Nat.le_refl _) n3 f3
    rw [Ae, Ae]
    refine r3.ld1 (j := 7) (by omega) ?_
    have e7 : (R[i] ++ [AV.Ai])[7]'(by omega) = .Ai := by rw [List.getElem_append_left (by rw [hc.l8]; decide)]; exact hc.c7
    rw [e7]
    refine Lj Axf ?_
    rw [Ae, Ae]
    refine r3.st1 (j := 7) (cs' := R[i] ++ [.Ai]) (by omega) rfl (by rw [List.set_append_left _ _ (by rw [hc.l8]; decide), hc.s7]) fun h4 n4' f4 r4' => ?_
    have X4 : Exh h h4 := X3.Sm (Nat.le_refl _) n4' f4
    have n4h : p4.nat < h.next.nat := Nat.lt_of_lt_of_le n4 hn
    rw [Ae]
    have q4 := r4.ext X4 n4h
    refine q4.ld1 (j := 0) (by show 0 < 4; decide) ?_
    rw [Ae]
    refine r4'.ldn (o := 0) (ds := R[i]) hc.l8 (by rw [List.drop_zero, List.take_left']; rfl) (by rw [hc.l8]; decide) ?_
    rw [Bjr hc, Ad, Aq3]
    have b4 := b.ext X4
    have ht : (R.take i).length = i := by rw [List.length_take]; omega
    have m4 := X4.1
    refine Po (ds := R[i]) (.inr b4) hc.l8 Azh (Af3 (by omega)) (by omega) fun v5 h5 b5 k5 => ?_
    have q5 := q4.kps k5 (by omega) (by decide)
    rw [Ae]
    refine q5.st1 (j := 0) (cs' := [v5, .Ai, .bool false, .Ai]) (by show 0 < 4; decide) b5.one rfl fun h6 n6 f6 r6 => ?_
    have m5 := k5.1
    refine Bw (by omega) (A4a hR hl hv n4 e4 hk m (i + 1) (by omega) hi' ⟨by rw [n6]; omega, fun c hc hne => ?_⟩ r6 ?_)
    · rw [f6 c hne, k5.2 c (by omega) (.inl hc), X4.2 c (by omega), x.2 c hc hne]
    · have et : R.take (i + 1) = R.take i ++ [R[i]] := by rw [List.take_add_one, List.getElem?_eq_getElem hi']; rfl
      rw [et]
      refine b5.frame (by rw [n6]; exact Nat.le_refl _) fun c _ _ t m z w e => f6 c fun q => ?_
      subst q
      obtain ⟨t', a', _⟩ := q5
      rw [e] at a'; cases a'
theorem Bfr(p t f:P)(l c:Nat)(vs:AV)(d:Int)(hs:vs=.Ai∨∃b o n z t,vs=.slice b o n z t)(h:H):Ax env (env.ty TRu) [(0,.ptr t 0),(1,.agg [.str l c,vs,.int .i64 d]),(2,.ptr f 0),(3,.map p)] h=some (.agg [.ptr t 0,.str l c,vs,.int .i64 d,.ptr f 0,.map p,.Ai,.bool false],h):=by
 rcases hs with rfl|⟨b,o,n,z,t,rfl⟩
 · kernel_rfl
 · kernel_rfl
theorem Bfs(p:P)(h:H):Ax env (env.ty TRo) [(0,.ptr p 0),(1,.bool true)] h=some (.agg [.ptr p 0,.bool true,.Ai,.Ai],h):=by kernel_rfl
theorem Ai5{b:Bool}{A:Prop}(hA:A):eqC (.bool b) (.bool b) A:=Gm (.inr (.inr (.inl ⟨b,rfl⟩))) hA
theorem c18{hE:H}{pt pe pF:P}{v vs:AV}{l c:Nat}{d:Int}{R:List (List AV)}{fu:Nat}(hR:∀c∈R,Tkp c)(hl:R.length≤1000)(hfu:R.length≤fu)(hf6:fu≤1000000)(hv:SlR 8 hE v R)(hs:vs=.Ai∨∃b o n z t,vs=.slice b o n z t)(tb:Cd hE pt 138 [.map pe])(em:hE.at pe=.map [] 0)(rF:Cd hE pF TFu [.int .i64 (Int.ofNat fu)])(nt:pt.nat<hE.next.nat)(ne:pe.nat<hE.next.nat)(nF:pF.nat<hE.next.nat){k:KV}
 (hk:∀h' vt vu ks,FrX (fun c=>c=pF) hE h'→Cd h' pF TFu [.int .i64 (Int.ofNat (fu-R.length))]→Cb TTk 8 hE.next.nat h' vt R→SlR 1 h' vu (scs ks)→(∀q o n z b,vu=.slice q o n z b→hE.next.nat≤q.nat)→ks.length≤R.length→(∀s∈ks,s.length≤1000000)→k (.agg [vt,.Ai,.bool false,vu]) h'):W1 (.func 18) [.ptr pt 0,v,.agg [.str l c,vs,.int .i64 d],.ptr pF 0] hE k:=by
 refine w18 (n:=R.length+2) Bg (g18 ?_)
 unfold Aox
 rw[Fu]
 refine Ft (by simp) ?_
 refine newRow (e:=109) (cs:=[.str l c,vs,.int .i64 d]) rfl fun h1 x1 n1 r1=>?_
 refine newRow (e:=TOu) (cs:=[.Ai,.Ai,.bool false,.Ai]) rfl fun h2 x2 n2 r2=>?_
 refine(r1.ext x2 (by omega)).ldn (o:=0) (ds:=[.str l c,vs,.int .i64 d]) rfl rfl (by simp) ?_
 refine Cy ?_
 have x3:Exh h2 (h2.new (.map [] 0)):=.new
 have n3:(h2.new (.map [] 0)).next.nat=h2.next.nat+1:=Bf
 have a3:(h2.new (.map [] 0)).at h2.next=.map [] 0:=Bc _ _
 generalize h2.new (.map [] 0)=h3 at x3 n3 a3 ⊢
 rw[Bfr _ _ _ _ _ _ _ hs,Ad,Fu]
 refine Ft (by simp) ?_
 refine newRow (e:=TRu) (cs:=[.ptr pt 0,.str l c,vs,.int .i64 d,.ptr pF 0,.map h2.next,.Ai,.bool false]) rfl fun h4 x4 n4 r4=>?_
 rw[Bfs,Ad,Fu]
 refine Ft (by simp) ?_
 refine newRow (e:=TRo) (cs:=[.ptr h3.next 0,.bool true,.Ai,.Ai]) rfl fun h5 x5 n5 r5=>?_
 refine newRow (e:=112) (cs:=[.Cm]) rfl fun h6 x6 n6 r6=>?_
 refine r6.st1 (j:=0) (cs':=[.ptr h4.next 0]) (by show 0<1;decide) rfl rfl fun h7 n7 f7 r7=>?_
 have x57:Exh h5 h7:=x6.Sm (Nat.le_refl _) n7 f7
 have m7:h7.next.nat=h5.next.nat+1:=by rw[n7,n6]
 have hvs:v=.Ai∨∃b o n z t,v=.slice b o n z t:=by
  rcases hv with⟨e,_⟩|⟨q,o,c,m,b,e,_⟩
  · exact .inl e
  · exact .inr ⟨_,_,_,_,_,e⟩
 have pne:∀{a b:P},a.nat≠b.nat→a≠b:=fun q e=>q (by rw[e])
 refine c40 hvs fun h8 p8 x8 r8 l8 u8=>?_
 have xE3:Exh hE h3:=(x1.trans x2).trans x3
 have x58:Exh h5 h8:=x57.trans x8
 have xE5:Exh hE h5:=(xE3.trans x4).trans x5
 have xE8:Exh hE h8:=xE5.trans x58
 have m8:=x8.1
 have q19:Cd h8 h5.next 112 [.ptr h4.next 0]:=r7.ext x8 (by omega)
 have qR:Cd h8 h4.next TRo [.ptr h3.next 0,.bool true,.Ai,.Ai]:=r5.ext x58 (by omega)
 have qO:Cd h8 h1.next TOu [.Ai,.Ai,.bool false,.Ai]:=r2.ext (((x3.trans x4).trans x5).trans x58) (by omega)
 have R8:Rnn h8 h3.next h2.next pF pt pe (.str l c) vs (.int .i64 d) [] fu:=by
  refine⟨r4.ext (x5.trans x58) (by omega),rF.ext xE8 nF,?_,tb.ext xE8 nt,by rw[xE8.2 _ ne];exact em,by omega,by omega,Nat.lt_of_lt_of_le nF xE8.1,Nat.lt_of_lt_of_le nt xE8.1,Nat.lt_of_lt_of_le ne xE8.1,pne (by omega)⟩
  unfold IsC
  rw[((x4.trans x5).trans x58).2 _ (by omega)];exact a3
 refine Ax5 q19 (by omega) (by omega) qR r8 u8 (hv.ext xE8) (fun q o n z b e w=>?_) hR (by omega) fun h9 f9 ⟨vt,rR9,bT9⟩=>?_
 · rcases hv with⟨e',_⟩|⟨q',o',c',m',b',e',hq,_⟩
   · rw[e'] at e;cases e
   · rw[e'] at e;cases e
     rw[w] at hq;omega
 refine Dp rfl ?_
 have m9:=f9.1
 have Bdp:Cd h9 h5.next 112 [.ptr h4.next 0]:=q19.of (f9.2 _ (by omega) (pne (by omega)))
 have R9:Rnn h9 h3.next h2.next pF pt pe (.str l c) vs (.int .i64 d) [] fu:=R8.frx f9 (pne (by omega)) (pne (by omega)) (pne (by omega)) (pne (by omega)) (pne (by omega))
 refine Bdp.ld1 (j:=0) (by show 0<1;decide) ?_
 refine c42 (by omega) hR R9 ⟨⟨vt,rR9,bT9.r,fun q o n z b e=>?_⟩,.inl ⟨rfl,rfl⟩,by omega,Nat.le_refl _⟩ hfu hf6 fun h10 vo L' fu' f10 R10 g10 ok10 ef=>?_
 · rcases bT9 with⟨e',_⟩|⟨q',t',m',z',w',e',_,hq,_⟩
   · rw[e'] at e;cases e
   · rw[e'] at e;cases e;exact hq
 have m10:=f10.1
 obtain⟨vt',rR10,_,_⟩:=g10.row
 have nX:∀{p:P},p.nat≠pF.nat→p≠h2.next→p≠h4.next→p.nat<h9.next.nat→h10.at p=h9.at p:=fun a b c e=>f10.2 _ e fun q=>by
  rcases q with q|q|q
  · exact a (by rw[q])
  · exact b q
  · exact c q
 have q1910:Cd h10 h5.next 112 [.ptr h4.next 0]:=Bdp.of (nX (by omega) (pne (by omega)) (pne (by omega)) (by omega))
 have qO9:Cd h9 h1.next TOu [.Ai,.Ai,.bool false,.Ai]:=qO.of (f9.2 _ (by omega) (pne (by omega)))
 have qO10:Cd h10 h1.next TOu [.Ai,.Ai,.bool false,.Ai]:=qO9.of (nX (by omega) (pne (by omega)) (pne (by omega)) (by omega))
 rw[g10.out.len,Mk]
 refine A4a (n0:=1) hR (by omega) g10.out.r (by omega) ⟨_,qO10⟩ (fun h11 vt4 f11 qO11 b11=>?_) R.length 0 (by omega) (Nat.zero_le _) .refl qO10 (.inl ⟨rfl,rfl⟩)
 have m11:=f11.1
 have R11:=R10.frx f11 (pne (by omega)) (pne (by omega)) (pne (by omega)) (pne (by omega)) (pne (by omega))
 have rR11:=rR10.of (f11.2 _ (by omega) (pne (by omega)))
 have q1911:=q1910.of (f11.2 _ (by omega) (pne (by omega)))
 refine A3j ?_
 unfold Ahr
 rw[ilt,decide_eq_false (Nat.lt_irrefl _)]
 refine Cp rfl ?_
 refine q1911.ld1 (j:=0) (by show 0<1;decide) ?_
 show oK (Ag (.ptr h4.next 0) h11) _
 rw[Am,Ad,Ae]
 refine rR11.ld1 (j:=0) (by show 0<4;decide) ?_
 show oK (Ag (.ptr h3.next 0) h11) _
 rw[Am,Ad,Ae]
 refine R11.run.ld1 (j:=6) (by show 6<8;decide) ?_
 refine q1911.ld1 (j:=0) (by show 0<1;decide) ?_
 show oK (Ag (.ptr h4.next 0) h11) _
 rw[Am,Ad,Ae]
 refine rR11.ld1 (j:=0) (by show 0<4;decide) ?_
 show oK (Ag (.ptr h3.next 0) h11) _
 rw[Am,Ad,Ae]
 refine R11.run.ld1 (j:=7) (by show 7<8;decide) ?_
 show asB (.bool false) _
 rw[Bn]
 refine q1911.ld1 (j:=0) (by show 0<1;decide) ?_
 show oK (Ag (.ptr h4.next 0) h11) _
 rw[Am,Ad,Ae]
 refine rR11.ld1 (j:=0) (by show 0<4;decide) ?_
 show oK (Ag (.ptr h3.next 0) h11) _
 rw[Am,Ad,Ae]
 refine R11.run.ld1 (j:=5) (by show 5<8;decide) ?_
 rw[Ae]
 refine c38 fun h12 p12 x12 r12 l12 u12=>?_
 have again:∀{h':H}{A:Prop},Exh h11 h'→A→(ld1 (.ptr h5.next 0) h' fun v86=>eqC v86 (.ptr h4.next 0)<|ld1 (.ptr h4.next (0+0)) h' fun v87=>eqC v87 (.ptr h3.next 0)<|ld1 (.ptr h3.next (0+6)) h' fun v88=>eqC v88 .Ai<|ld1 (.ptr h5.next 0) h' fun v89=>eqC v89 (.ptr h4.next 0)<|ld1 (.ptr h4.next (0+0)) h' fun v90=>eqC v90 (.ptr h3.next 0)<|ld1 (.ptr h3.next (0+7)) h' fun v91=>asB v91 fun b92=>eqC (.bool b92) (.bool false) A):=fun{h' A} x hA=>by
  have a1:=q1911.ext x (by omega)
  have a2:=rR11.ext x (by omega)
  have a3:=(R11.ext x).run
  refine a1.ld1 (j:=0) (by show 0<1;decide) (Gn (a2.ld1 (j:=0) (by show 0<4;decide) (Gn (a3.ld1 (j:=6) (by show 6<8;decide) ?_))))
  show eqC .Ai .Ai _
  rw[Aba]
  refine a1.ld1 (j:=0) (by show 0<1;decide) (Gn (a2.ld1 (j:=0) (by show 0<4;decide) (Gn (a3.ld1 (j:=7) (by show 7<8;decide) ?_))))
  show asB (.bool false) _
  rw[Bn]
  exact Ai5 hA
 refine again x12 ?_
 have okn:(its R).length≤1000:=by rw[Mk];exact hl
 refine Agq (R11.ext x12).used ok10 okn r12 fun h13 vu x13 hq13 s13=>?_
 have x113:=x12.trans x13
 refine again x113 ?_
 have qO13:=qO11.ext x113 (by omega)
 refine qO13.st1 (j:=1) (cs':=[vt4,.Ai,.bool false,.Ai]) (by show 1<4;decide) rfl rfl fun h14 n14 f14 qO14=>?_
 have g14:∀p,p≠h1.next→h14.at p=h13.at p:=f14
 refine((q1911.ext x113 (by omega)).of (g14 _ (pne (by omega)))).ld1 (j:=0) (by show 0<1;decide) (Gn ?_)
 refine((rR11.ext x113 (by omega)).of (g14 _ (pne (by omega)))).ld1 (j:=0) (by show 0<4;decide) (Gn ?_)
 refine((R11.ext x113).run.of (g14 _ (pne (by omega)))).ld1 (j:=7) (by show 7<8;decide) ?_
 show asB (.bool false) _
 rw[Bn]
 refine Ai5 ?_
 rw[Ae]
 refine qO14.st1 (j:=2) (cs':=[vt4,.Ai,.bool false,.Ai]) (by show 2<4;decide) rfl rfl fun h15 n15 f15 qO15=>?_
 have hvu:vu.one=true:=by
  rcases s13 with⟨e,_⟩|⟨q,o,c,m,b,e,_⟩
  · rw[e];rfl
  · rw[e];rfl
 rw[Ae]
 refine qO15.st1 (j:=3) (cs':=[vt4,.Ai,.bool false,vu]) (by show 3<4;decide) hvu rfl fun h16 n16 f16 qO16=>?_
 refine qO16.ldn (o:=0) (ds:=[vt4,.Ai,.bool false,vu]) rfl rfl (by simp) ?_
 refine qO16.stn (o:=0) (ds:=[vt4,.Ai,.bool false,vu]) (cs':=[vt4,.Ai,.bool false,vu]) rfl (by decide) (by simp) rfl fun h17 n17 f17 qO17=>?_
 refine qO17.ldn (o:=0) (ds:=[vt4,.Ai,.bool false,vu]) rfl rfl (by simp) ?_
 have g17:∀p,p≠h1.next→h17.at p=h13.at p:=fun p hp=>by rw[f17 p hp,f16 p hp,f15 p hp,f14 p hp]
 have n17':h17.next.nat=h13.next.nat:=by rw[n17,n16,n15,n14]
 have m13:=x113.1
 have nO:∀{t m z e w},h13.at h1.next=.row t m z e w→e=TOu:=fun{t m z e w} a=>by
  obtain⟨t',a',_⟩:=qO13
  rw[a] at a'
  simp only[Ob.row.injEq] at a'
  exact a'.2.2.2.1
 have mE:=xE8.1
 refine hk h17 vt4 vu (Qk (L'.map (·.1))) ⟨by omega,fun p hp hne=>?_⟩ ?_ ?_ ?_ (fun q o n z b e=>by have:=hq13 q o n z b e;omega) ?_ ?_
 · rw[g17 p (pne (by omega)),x113.2 p (by omega),f11.2 p (by omega) (pne (by omega)),f10.2 p (by omega) fun q=>?_,f9.2 p (by omega) (pne (by omega)),xE8.2 p hp]
   rcases q with q|q|q
   · exact hne q
   · rw[q] at hp;omega
   · rw[q] at hp;omega
 · rw[←ef]
   exact(R11.ext x113).fuel.of (g17 _ (pne (by omega)))
 · have b13:=b11.ext x113
   refine(b13.low (show hE.next.nat≤h10.next.nat by omega)).frame (by omega) fun p hp _ t m z w e=>g17 p fun q=>?_
   subst q
   exact absurd (nO e) (by decide)
 · refine s13.frx (X:=fun p=>p=h1.next) ⟨by omega,fun p _ hne=>g17 p hne⟩ fun q o n z b e w=>?_
   have:=hq13 q o n z b e
   rw[w] at this;omega
 · have:=ok10.len
   rw[Mk] at this
   rw[(Lo _).length_eq,List.length_map];exact this
 · intro s hs
   have:=(Lo _).mem_iff.1 hs
   obtain⟨x,hx,e⟩:=List.mem_map.1 this
   rw[←e];exact ok10.sh x hx
end Go.Den
