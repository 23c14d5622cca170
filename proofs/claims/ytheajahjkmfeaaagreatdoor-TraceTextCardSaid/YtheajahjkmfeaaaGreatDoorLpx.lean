/-
 Proof.
-/
import Derived.Test.YtheajahjkmfeaaaGreatDoorLpv
import Derived.Test.YtheajahjkmfeaaaGreatDoorIst
noncomputable section
namespace Go.Den
open Go.RowKit
open Go.Lx (Rn bts Au)
set_option maxRecDepth 100000
def Mz(nm s:List UInt8):List (List (List AV)):=(Ff s).map fun x=>Ev nm (Au s) x.1
theorem Tz(nm s:List UInt8):(Mz nm s).length=(Ff s).length:=List.length_map ..
theorem A4m{nm s:List UInt8}{i:Nat}(h:i<(Ff s).length)(h':i<(Mz nm s).length):(Mz nm s)[i]=Ev nm (Au s) (Ff s)[i].1:=List.getElem_map (fun x:LnV=>Ev nm (Au s) x.1) (h:=h')
theorem Aqe{A:Prop}(hA:A):eqC Kq Kq A:=by
 unfold eqC
 rw[show Ajr 4 Kq Kq=true by kernel_rfl];exact hA
theorem Bfq(l c:Nat)(vs:AV)(hs:vs=.Ai∨∃b o n z t,vs=.slice b o n z t)(h:H):Ax env (env.ty 109) [(0,.str l c),(1,vs)] h=some (.agg [.str l c,vs,.int .i64 (.ofNat 0)],h):=by
 rcases hs with rfl|⟨b,o,n,z,t,rfl⟩
 · kernel_rfl
 · kernel_rfl
theorem Bfx(p:P)(l c:Nat)(vs:AV)(hs:vs=.Ai∨∃b o n z t,vs=.slice b o n z t)(h:H):Ax env (env.ty TFl) [(0,.ptr p 0),(1,.str l c),(2,.agg [.str l c,vs,.int .i64 (.ofNat 0)])] h=some (.agg [.ptr p 0,.str l c,.str l c,vs,.int .i64 (.ofNat 0),.Ai,.Ai,.int .i64 (.ofNat 0),.int .i64 (.ofNat 0),.bool false,.str 0 0,.int .i64 (.ofNat 0),.int .i64 (.ofNat 0),.Ai],h):=by
 rcases hs with rfl|⟨b,o,n,z,t,rfl⟩
 · kernel_rfl
 · kernel_rfl
theorem Bmg:(Hz TDg).size=4:=by kernel_rfl
theorem A8w{n:Nat}(hn:n≤1099511627776):Bv (Hz TDg) n=true:=Lv (by kernel_rfl) (by kernel_rfl) hn
abbrev ChF(pF pA pK pS c:P):Prop:=c=pF∨c=pA∨c=pK∨c=pS
theorem c36{h:H}{pT pG pV pK pt pe pF pS pA:P}{fs:List Fl}{nm s:List UInt8}{w1 w2 w3:AV}{fu:Nat}
 (tb:Sq h pT pG pV fs) (tx:Bl fs nm=some s) (hs:s.length≤2048) (hn:nm.length≤1000)
 (rK:Cd h pK TWr (wkr pT w1 w2 w3 Kq Kx pt pF .Ai .Ai .Ai .Ai false pS pA 0)) (ok:TxX (Mz nm s)) (hsz:∀j,j≤(Mz nm s).length→(En [] true ((Mz nm s).take j)).length≤1000) (hln:(Ff s).length≤100000) (hfu:1000≤fu) (hf6:fu≤1000000)
 (mt:Cd h pt 138 [.map pe]) (em:h.at pe=.map [] 0) (rF:Cd h pF TFu [.int .i64 (Int.ofNat fu)]) (mA:IsC h pA []) (mS:IsC h pS []) (eS:pS≠pA) (eE:pS≠pe)
 (nK:pK.nat<h.next.nat) (nt:pt.nat<h.next.nat) (ne:pe.nat<h.next.nat) (nF:pF.nat<h.next.nat) (nA:pA.nat<h.next.nat) (nS:pS.nat<h.next.nat) {k:KV}
 (hk:∀h' v' vd' L',FrX (ChF pF pA pK pS) h h'→Cd h' pK TWr (wkr pT w1 w2 w3 Kq Kx pt pF v' vd' .Ai .Ai false pS pA 0)→He TTk 8 h.next.nat h' v' (En [] true (Mz nm s))→IsC h' pS (inc nm [])→IsC h' pA L'→(∃n,n≤1000∧Le L' n)→vd'.one=true→k (.tuple []) h'):
 W1 (.func 36) [.ptr pK 0,S nm] h k:=by
 have kA:pK≠pA:=fun e=>by subst e;exact rK.Hy mA
 have kS:pK≠pS:=fun e=>by subst e;exact rK.Hy mS
 have kF:pK≠pF:=rK.ne rF (by decide)
 have tA:pt≠pA:=fun e=>by subst e;exact mt.Hy mA
 have tS:pt≠pS:=fun e=>by subst e;exact mt.Hy mS
 have tK:pt≠pK:=mt.ne rK (by decide)
 have eK:pe≠pK:=fun e=>by subst e;exact rK.Hy em
 have fS:pF≠pS:=fun e=>by subst e;exact rF.Hy mS
 refine w36 (n:=3) Bg (g36 ?_)
 unfold Aod
 rw[Am,Ad,Ae]
 refine rK.ld1 (j:=0) (by show 0<16;decide) ?_
 refine c32 tb nm fun v hv=>?_
 rw[tx] at hv ⊢
 obtain⟨x,ex,hr,q,rfl⟩:∃x,some s=some x∧Eb 4 h v x∧∃q,v=.ptr q 0:=by
  rcases hv with⟨e,_⟩|hv
  · cases e
  · exact hv
 obtain rfl:s=x:=Option.some.inj ex
 rw[Hu,Ht]
 show asB (.bool true) _
 rw[Bn,Am,Ad,Ae,Ae]
 refine rK.ld1 (j:=4) (by show 4<16;decide) ?_
 refine newRow (e:=105) (cs:=[.Ai,.Ai,.Ai]) rfl fun h1 x1 n1 r1=>?_
 have K1:=rK.ext x1 nK
 refine K1.ld1 (j:=4) (by show 4<16;decide) (Aqe ?_)
 refine c46 (hr.ext x1) (by omega) fun h2 x2=>?_
 rw[Eg]
 have x02:=x1.trans x2
 have K2:=rK.ext x02 nK
 refine K2.ld1 (j:=4) (by show 4<16;decide) (Aqe ?_)
 show W1 (.func 17) [S nm,S s] h2 _
 refine c17 (by omega) fun lo h3 vo vdp vs D Lc hlo x3 pr=>?_
 have x03:=x02.trans x3
 have r3:=(r1.ext x2 (by omega)).ext x3 (by have:=x2.1;omega)
 have m2:=x2.1
 have m3:=x3.1
 refine r3.stn (o:=0) (ds:=[vo,vdp,vs]) (cs':=[vo,vdp,vs]) rfl (by decide) (by simp) rfl fun h4 n4 f4 r4=>?_
 have x04:Exh h h4:=x03.Sm (Nat.le_refl _) n4 f4
 have m4:h4.next.nat=h3.next.nat:=by rw[n4]
 have p4:Prs lo h4 nm s vo vdp vs D Lc:=pr.keep (by omega) fun c _ hl _=>f4 c fun e=>by subst e;omega
 rw[Ae]
 refine r4.ld1 (j:=2) (by show 2<3;decide) ?_
 have hvs:=p4.st.sl
 show oK (Ax env (env.ty 109) [(0,.str nm.length (enc nm)),(1,vs)] h4) _
 rw[Bfq _ _ _ hvs,Ad,Bfx _ _ _ _ hvs,Ad,Fu]
 refine Ft (by simp) ?_
 refine newRow (e:=TFl) (cs:=flr pK nm vs) rfl fun h5 x5 n5 r5=>?_
 have x05:=x04.trans x5
 have m05:=x05.1
 have K5:=rK.ext x05 nK
 rw[Am,Ad,Ae]
 refine K5.ld1 (j:=13) (by show 13<16;decide) ?_
 show oK (Db env 95 (.map pS) (.str nm.length (enc nm)) false h5) _
 have S5:IsC h5 pS []:=by unfold IsC;rw[x05.2 _ nS];exact mS
 refine S5.add .nil (by decide) fun h6 n6 f6 S6=>?_
 have m6:h6.next.nat=h5.next.nat:=by rw[n6]
 have K6:=K5.of (f6 _ kS)
 rw[Am,Ad,Ae]
 refine K6.ld1 (j:=15) (by show 15<16;decide) ?_
 show asI .i64 (.int .i64 (Int.ofNat 0)) _
 rw[Bj]
 refine Bw (by decide) ?_
 rw[Am,Ad,Ae]
 refine K6.st1 (j:=15) (cs':=wkr pT w1 w2 w3 Kq Kx pt pF .Ai .Ai .Ai .Ai false pS pA 1) (by show 15<16;decide) rfl rfl fun h7 n7 f7 K7=>?_
 have m7:h7.next.nat=h6.next.nat:=by rw[n7]
 rw[Am,Ad,Ae,Ae]
 refine K7.ld1 (j:=9) (by show 9<16;decide) ?_
 have pne:∀{a b:P},a.nat≠b.nat→a≠b:=fun q e=>q (by rw[e])
 have r7:Cd h7 h.next 105 [vo,vdp,vs]:=((r4.ext x5 (by omega)).of (f6 _ (pne (by omega)))).of (f7 _ (pne (by omega)))
 have p7:Prs lo h7 nm s vo vdp vs D Lc:=(p4.keep x5.1 fun c hc _ _=>x5.2 c hc).keep (by omega) fun c hc hl _=>by rw[f7 c (pne (by omega)),f6 c (pne (by omega))]
 rw[Ae]
 refine r7.ld1 (j:=1) (by show 1<3;decide) ?_
 show oK (Ar env .append [31,31] [.Ai,vdp] h7) _
 have hdl:=p7.dl
 obtain⟨v8,h8,e8,b8,m8,f8⟩:=Alx (e:=TDg) (lo:=h7.next.nat) (v:=.Ai) (L:=[]) (.inl ⟨rfl,rfl⟩) (Jt p7.d.r.slr) p7.d.r.slr.Tv Bmg (A8w (by simp only[List.length_nil];omega)) (Nat.le_refl _)
 rw[Ayl,e8,Ad]
 rw[List.nil_append] at b8
 have x78:Exh h7 h8:=⟨m8,fun c hc=>f8 c hc fun _ _ _ _ e'=>by cases e'⟩
 have K8:=K7.ext x78 (by omega)
 rw[Am,Ad,Ae,Ae]
 refine K8.st1 (j:=9) (cs':=wkr pT w1 w2 w3 Kq Kx pt pF .Ai v8 .Ai .Ai false pS pA 1) (by show 9<16;decide) b8.one rfl fun h9 n9 f9 K9=>?_
 have m9:h9.next.nat=h8.next.nat:=by rw[n9]
 have g9:∀c,c.nat<h5.next.nat→c≠pS→c≠pK→h9.at c=h5.at c:=fun c hc h1 h2=>by rw[f9 c h2,x78.2 c (by omega),f7 c h2,f6 c h1]
 have r9:Cd h9 h.next 105 [vo,vdp,vs]:=(r7.ext x78 (by omega)).of (f9 _ (pne (by omega)))
 have p9:Prs lo h9 nm s vo vdp vs D Lc:=(p7.keep x78.1 fun c hc _ _=>x78.2 c hc).keep (by omega) fun c hc hl _=>f9 c (pne (by omega))
 have X9:Cd h9 h4.next TFl (flr pK nm vs):=r5.of (g9 _ (by omega) (pne (by omega)) (pne (by omega)))
 have old:∀c,c.nat<h.next.nat→c≠pS→c≠pK→h9.at c=h.at c:=fun c hc h1 h2=>by rw[g9 c (by omega) h1 h2,x05.2 c hc]
 have b9:Cb TDg 4 h7.next.nat h9 v8 D:=b8.n.frame (by omega) fun c _ hl _ _ _ _ _=>f9 c (pne (by omega))
 have A9:IsC h9 pA []:=by unfold IsC;rw[old _ nA eS.symm kA.symm];exact mA
 rw[Ae]
 refine r9.ld1 (j:=0) (by show 0<3;decide) ?_
 refine c57 (XS:=Mz nm s) X9 K9 hvs p9.z.n.r.slr ?_ ok (by rw[Tz];omega) hsz hfu hf6 (mt.of (old _ nt tS tK)) (by rw[old _ ne eE.symm eK];exact em) (rF.of (old _ nF fS kF.symm)) A9 (Nat.zero_le _) .nil b9 (by omega) (by omega) (by omega) (by omega) (by omega) (by omega) (by omega) fun h10 v10 L10 f10 K10 b10 A10 ok10=>?_
 · refine⟨by rw[Tz];exact p9.o.1,fun i h1 h2=>?_⟩
   obtain⟨vt,e,b⟩:=p9.o.2 i h1 (by rw[Tz] at h2;exact h2)
   refine⟨vt,_,_,_,e,?_⟩
   have:=b.r.slr
   rw[A4m (by rw[Tz] at h2;exact h2) h2]
   exact this
 have m10:=f10.1
 have X10:=X9.of (f10.2 _ (by omega) fun q=>by
  rcases q with q|q|q
  · exact absurd q (pne (by omega))
  · exact absurd q (pne (by omega))
  · exact absurd q (pne (by omega)))
 refine Be9 ?_
 unfold Aob
 rw[Am,Ad,Ae]
 refine X10.ld1 (j:=5) (by show 5<14;decide) ?_
 show Cz .Ai _
 rw[Lh]
 refine Bfa ?_
 unfold Aoc
 rw[ilt,decide_eq_false (Nat.lt_irrefl _)]
 refine Cp rfl ?_
 rw[Am,Ad,Ae]
 refine K10.ld1 (j:=15) (by show 15<16;decide) ?_
 show asI .i64 (.int .i64 (Int.ofNat 1)) _
 rw[Bj]
 refine Xa (by decide) (by decide) ?_
 rw[Am,Ad,Ae]
 refine K10.st1 (j:=15) (cs':=wkr pT w1 w2 w3 Kq Kx pt pF v10 v8 .Ai .Ai false pS pA 0) (by show 15<16;decide) rfl rfl fun h11 n11 f11 K11=>?_
 have m11:h11.next.nat=h10.next.nat:=by rw[n11]
 have S9:IsC h9 pS (inc nm []):=by unfold IsC;rw[f9 _ kS.symm,x78.2 _ (by omega),f7 _ kS.symm];exact S6
 have S11:IsC h11 pS (inc nm []):=by
  unfold IsC
  rw[f11 _ kS.symm,f10.2 _ (by omega) fun q=>by
   rcases q with q|q|q
   · exact fS q.symm
   · exact eS q
   · exact kS q.symm]
  exact S9
 have A11:IsC h11 pA L10:=by unfold IsC;rw[f11 _ kA.symm];exact A10
 refine hk h11 v10 v8 L10 ⟨by omega,fun c hc hne=>?_⟩ K11 ?_ S11 A11 ?_ b8.one
 · rw[f11 c fun q=>hne (.inr (.inr (.inl q))),f10.2 c (by omega) fun q=>hne (q.elim .inl fun q=>.inr (q.elim .inl fun q=>.inr (.inl q))),old c hc (fun q=>hne (.inr (.inr (.inr q)))) fun q=>hne (.inr (.inr (.inl q)))]
 · refine He.frame (h:=h10) ?_ (by omega) fun c _ hl t m z w e=>f11 c (pne (by omega))
   rcases b10 with e|⟨q,t,m,w,e,a,b,c,d⟩
   · exact .inl e
   · exact .inr ⟨q,t,m,w,e,by omega,b,c,d⟩
 · obtain⟨n,hn,o⟩:=ok10
   exact⟨n,by omega,o⟩
end Go.Den
noncomputable section
namespace Go.Den
open Go.RowKit
open Go.Lx (Rn bts Au)
set_option maxRecDepth 100000
abbrev TRs:TypeId:=34
abbrev TCg:TypeId:=37
abbrev THk:TypeId:=64
theorem Bft(p:P)(h:H):Ax env (env.ty 138) [(0,.map p)] h=some (.agg [.map p],h):=by kernel_rfl
theorem Bfw(h:H):Ax env (env.ty TFu) [] h=some (.agg [.int .i64 (Int.ofNat 0)],h):=by kernel_rfl
theorem c34{h:H}{k:KV}(hk:∀h' pt pe,Exh h h'→Cd h' pt 138 [.map pe]→h'.at pe=.map [] 0→h.next.nat≤pt.nat→pt.nat<h'.next.nat→h.next.nat≤pe.nat→pe.nat<h'.next.nat→k (.ptr pt 0) h'):W1 (.func 34) [] h k:=by
 refine w34 (n:=1) Bg (g34 ?_)
 unfold Aof
 refine Cy ?_
 have x1:Exh h (h.new (.map [] 0)):=.new
 have n1:(h.new (.map [] 0)).next.nat=h.next.nat+1:=Bf
 have a1:(h.new (.map [] 0)).at h.next=.map [] 0:=Bc _ _
 generalize h.new (.map [] 0)=h1 at x1 n1 a1 ⊢
 rw[Bft,Ad,Fu]
 refine Ft (by simp) ?_
 refine newRow (e:=138) (cs:=[.map h.next]) rfl fun h2 x2 n2 r2=>?_
 exact hk h2 h1.next h.next (x1.trans x2) r2 (by rw[x2.2 _ (by omega)];exact a1) (by omega) (by omega) (Nat.le_refl _) (by omega)
theorem Bmu(a b:Int)(h:H):Ar env .max [3,3] [.int .i64 a,.int .i64 b] h=some (.int .i64 (Bool.rec a b (Ca a b)),h):=by kernel_rfl
theorem c35{h:H}{n:Nat}{k:KV}(hk:∀h' pF,Exh h h'→Cd h' pF TFu [.int .i64 (Int.ofNat n)]→h.next.nat≤pF.nat→pF.nat<h'.next.nat→k (.ptr pF 0) h'):W1 (.func 35) [.int .i64 (Int.ofNat n)] h k:=by
 refine w35 (n:=1) Bg (g35 ?_)
 unfold Aoe
 rw[Bfw,Ad,Fu]
 refine Ft (by simp) ?_
 refine newRow (e:=TFu) (cs:=[.int .i64 (Int.ofNat 0)]) rfl fun h2 x2 n2 r2=>?_
 rw[Am,Ad,Ae]
 have em:Ar env .max [3,3] [.int .i64 (Int.ofNat n),.int .i64 (Int.ofNat 0)] h2=some (.int .i64 (Bool.rec (Int.ofNat n) (Int.ofNat 0) (Ca (Int.ofNat n) (Int.ofNat 0))),h2):=Bmu _ _ _
 rw[em,ilt,decide_eq_false (Nat.not_lt_zero _),Ad]
 show asI .i64 (.int .i64 (Int.ofNat n)) _
 rw[Bj]
 refine c56 r2 fun h3 n3 f3 r3=>?_
 exact hk h3 h.next (x2.Sm (Nat.le_refl _) n3 f3) r3 (Nat.le_refl _) (by rw[n3];omega)
theorem Boo:Pure PP G h0 33 [.agg [.Ai,.int .i64 (Int.ofNat 1),.int .i64 (Int.ofNat 3000)]] (.bool true):=pure_run (by kernel_rfl)
theorem Bfp(pT pt pF pS pA:P)(h:H):Ax env (env.ty TWr) [(0,.ptr pT 0),(1,.agg [.Ai,.int .i64 (Int.ofNat 1),.int .i64 (Int.ofNat 3000)]),(2,.agg [Kq,Kx]),(3,.ptr pt 0),(4,.ptr pF 0),(6,.map pS),(7,.map pA)] h=
 some (.agg [.ptr pT 0,.Ai,.int .i64 (Int.ofNat 1),.int .i64 (Int.ofNat 3000),Kq,Kx,.ptr pt 0,.ptr pF 0,.Ai,.Ai,.Ai,.Ai,.bool false,.map pS,.map pA,.int .i64 (Int.ofNat 0)],h):=by kernel_rfl
theorem Awh{A:Prop}(hA:A):eqC (.agg [.Ai,.int .i64 (Int.ofNat 1),.int .i64 (Int.ofNat 3000)]) (.agg [.Ai,.int .i64 (Int.ofNat 1),.int .i64 (Int.ofNat 3000)]) A:=by
 unfold eqC
 rw[show Ajr 4 (.agg [.Ai,.int .i64 (Int.ofNat 1),.int .i64 (Int.ofNat 3000)]) (.agg [.Ai,.int .i64 (Int.ofNat 1),.int .i64 (Int.ofNat 3000)])=true by kernel_rfl];exact hA
theorem Awg{A:Prop}(hA:A):eqC (.agg [Kq,Kx]) (.agg [Kq,Kx]) A:=by
 unfold eqC
 rw[show Ajr 4 (.agg [Kq,Kx]) (.agg [Kq,Kx])=true by kernel_rfl];exact hA
theorem Bf3{n:Int}{A:Prop}(hA:A):eqC (.int .i64 n) (.int .i64 n) A:=Gm (.inr (.inl ⟨_,_,rfl⟩)) hA
def Aco(nm s:List UInt8):List (List AV):=En [] true (Mz nm s)
theorem c16{h:H}{pT pG pV:P}{fs:List Fl}{nm s:List UInt8}
 (tb:Sq h pT pG pV fs) (tx:Bl fs nm=some s) (hs:s.length≤2048) (hn:nm.length≤1000)
 (ok:TxX (Mz nm s)) (hsz:∀j,j≤(Mz nm s).length→(En [] true ((Mz nm s).take j)).length≤1000) (hln:(Ff s).length≤100000) {k:KV}
 (hk:∀h' vt vd vf va,Exh h h'→He TTk 8 h.next.nat h' vt (Aco nm s)→vd.one=true→vf.one=true→va.one=true→k (.agg [vt,vd,vf,va,.bool false]) h'):
 W1 (.func 16) [.ptr pT 0,S nm,.agg [.Ai,.int .i64 (Int.ofNat 1),.int .i64 (Int.ofNat 3000)],.agg [Kq,Kx]] h k:=by
 have pne:∀{a b:P},a.nat≠b.nat→a≠b:=fun q e=>q (by rw[e])
 refine w16 (n:=1) Bg (g16 ?_)
 unfold Ao0
 rw[Fu]
 refine Ft (by simp) ?_
 refine newRow (e:=TCg) (cs:=[.Ai,.int .i64 (Int.ofNat 1),.int .i64 (Int.ofNat 3000)]) rfl fun h1 x1 n1 r1=>?_
 rw[Fu]
 refine Ft (by simp) ?_
 refine newRow (e:=THk) (cs:=[Kq,Kx]) rfl fun h2 x2 n2 r2=>?_
 refine newRow (e:=TRs) (cs:=[.Ai,.Ai,.Ai,.Ai,.bool false]) rfl fun h3 x3 n3 r3=>?_
 have x03:=(x1.trans x2).trans x3
 refine c32 (tb.ext x03) nm fun v _=>?_
 rw[tx,Hu,Ht]
 show asB (.bool true) _
 rw[Bn]
 refine Qe (fun _=>?_) (fun e=>by cases e)
 have q1:=r1.ext (x2.trans x3) (by omega)
 have q2:=r2.ext x3 (by omega)
 refine q1.ldn (o:=0) (ds:=[.Ai,.int .i64 (Int.ofNat 1),.int .i64 (Int.ofNat 3000)]) rfl rfl (by simp) ?_
 refine Lj Boo ?_
 rw[Bn]
 refine Cp rfl ?_
 refine q1.ldn (o:=0) (ds:=[.Ai,.int .i64 (Int.ofNat 1),.int .i64 (Int.ofNat 3000)]) rfl rfl (by simp) ?_
 refine q2.ldn (o:=0) (ds:=[Kq,Kx]) rfl rfl (by simp) ?_
 rw[Ae]
 refine q1.ld1 (j:=2) (by show 2<3;decide) ?_
 show asI .i64 (.int .i64 (Int.ofNat 3000)) _
 rw[Bj]
 have again:∀{h':H}{A:Prop},Exh h3 h'→A→(ldn 3 (.ptr h.next 0) h' fun v32=>eqC v32 (.agg [.Ai,.int .i64 (Int.ofNat 1),.int .i64 (Int.ofNat 3000)])<|ldn 2 (.ptr h1.next 0) h' fun v33=>eqC v33 (.agg [Kq,Kx])<|ld1 (.ptr h.next (0+2)) h' fun v34=>asI .i64 v34 fun n35=>eqC (.int .i64 n35) (.int .i64 (Int.ofNat 3000)) A):=fun{h' A} x hA=>by
  have a1:=q1.ext x (by omega)
  have a2:=q2.ext x (by omega)
  refine a1.ldn (o:=0) (ds:=[.Ai,.int .i64 (Int.ofNat 1),.int .i64 (Int.ofNat 3000)]) rfl rfl (by simp) (Awh ?_)
  refine a2.ldn (o:=0) (ds:=[Kq,Kx]) rfl rfl (by simp) (Awg ?_)
  refine a1.ld1 (j:=2) (by show 2<3;decide) ?_
  show asI .i64 (.int .i64 (Int.ofNat 3000)) _
  rw[Bj]
  exact Bf3 hA
 refine Cy ?_
 have x4:Exh h3 (h3.new (.map [] 0)):=.new
 have n4:(h3.new (.map [] 0)).next.nat=h3.next.nat+1:=Bf
 have a4:(h3.new (.map [] 0)).at h3.next=.map [] 0:=Bc _ _
 generalize h3.new (.map [] 0)=h4 at x4 n4 a4 ⊢
 refine again x4 ?_
 refine Cy ?_
 have x5:Exh h4 (h4.new (.map [] 0)):=.new
 have n5:(h4.new (.map [] 0)).next.nat=h4.next.nat+1:=Bf
 have a5:(h4.new (.map [] 0)).at h4.next=.map [] 0:=Bc _ _
 generalize h4.new (.map [] 0)=h5 at x5 n5 a5 ⊢
 refine again (x4.trans x5) ?_
 refine c34 fun h6 pt pe x6 rt re t1 t2 e1 e2=>?_
 refine again ((x4.trans x5).trans x6) ?_
 refine c35 fun h7 pF x7 rF F1 F2=>?_
 have x37:=((x4.trans x5).trans x6).trans x7
 refine(q1.ext x37 (by omega)).ldn (o:=0) (ds:=[.Ai,.int .i64 (Int.ofNat 1),.int .i64 (Int.ofNat 3000)]) rfl rfl (by simp) (Awh ?_)
 refine(q2.ext x37 (by omega)).ldn (o:=0) (ds:=[Kq,Kx]) rfl rfl (by simp) (Awg ?_)
 rw[Bfp,Ad,Fu]
 refine Ft (by simp) ?_
 refine newRow (e:=TWr) (cs:=wkr pT .Ai (.int .i64 (Int.ofNat 1)) (.int .i64 (Int.ofNat 3000)) Kq Kx pt pF .Ai .Ai .Ai .Ai false h3.next h4.next 0) rfl fun h8 x8 n8 r8=>?_
 have x08:Exh h h8:=(x03.trans x37).trans x8
 have m6:=x6.1
 have m7:=x7.1
 have A8:IsC h8 h4.next []:=by unfold IsC;rw[((x6.trans x7).trans x8).2 _ (by omega)];exact a5
 have S8:IsC h8 h3.next []:=by unfold IsC;rw[(((x5.trans x6).trans x7).trans x8).2 _ (by omega)];exact a4
 refine c36 (tb.ext x08) tx hs hn r8 ok hsz hln (by decide) (by decide) (rt.ext (x7.trans x8) t2) (by rw[(x7.trans x8).2 _ e2];exact re) (rF.ext x8 F2) A8 S8 (pne (by omega)) (pne (by omega)) (by omega) (by omega) (by omega) (by omega) (by omega) (by omega) fun h9 v9 d9 L9 f9 K9 b9 S9 A9 ok9 one9=>?_
 have m9:=f9.1
 have old:∀c,c.nat<h8.next.nat→c≠pF→c≠h4.next→c≠h7.next→c≠h3.next→h9.at c=h8.at c:=fun c hc a b d e=>f9.2 c hc fun q=>by
  rcases q with q|q|q|q
  · exact a q
  · exact b q
  · exact d q
  · exact e q
 have Q9:Cd h9 h2.next TRs [.Ai,.Ai,.Ai,.Ai,.bool false]:=(r3.ext (x37.trans x8) (by omega)).of (old _ (by omega) (pne (by omega)) (pne (by omega)) (pne (by omega)) (pne (by omega)))
 rw[Am,Ad,Ae]
 refine K9.ld1 (j:=13) (by show 13<16;decide) ?_
 refine c38 fun h10 p10 x10 r10 l10 u10=>?_
 have S10:IsC h10 h3.next (inc nm []):=by unfold IsC;rw[x10.2 _ (by omega)];exact S9
 have okS:Le (inc nm []) 1:=Le.nil.inc (by omega)
 refine Agq S10 okS (by decide) r10 fun h11 vf x11 hq11 s11=>?_
 have x911:=x10.trans x11
 have m911:=x911.1
 have K11:=K9.ext x911 (by omega)
 have vfo:vf.one=true:=by
  rcases s11 with⟨e,_⟩|⟨q,o,c,m,b,e,_⟩
  · rw[e];rfl
  · rw[e];rfl
 rw[Am,Ad,Ae,Ae]
 refine K11.st1 (j:=10) (cs':=wkr pT .Ai (.int .i64 (Int.ofNat 1)) (.int .i64 (Int.ofNat 3000)) Kq Kx pt pF v9 d9 vf .Ai false h3.next h4.next 0) (by show 10<16;decide) vfo rfl fun h12 n12 f12 K12=>?_
 have m12:h12.next.nat=h11.next.nat:=by rw[n12]
 rw[Am,Ad,Ae]
 refine K12.ld1 (j:=14) (by show 14<16;decide) ?_
 refine c38 fun h13 p13 x13 r13 l13 u13=>?_
 have A13:IsC h13 h4.next L9:=by unfold IsC;rw[x13.2 _ (by omega),f12 _ (pne (by omega)),x911.2 _ (by omega)];exact A9
 obtain⟨na,ha,oka⟩:=ok9
 refine Agq A13 oka ha r13 fun h14 va x14 hq14 s14=>?_
 have x1214:=x13.trans x14
 have m1214:=x1214.1
 have K14:=K12.ext x1214 (by omega)
 have vao:va.one=true:=by
  rcases s14 with⟨e,_⟩|⟨q,o,c,m,b,e,_⟩
  · rw[e];rfl
  · rw[e];rfl
 rw[Am,Ad,Ae,Ae]
 refine K14.st1 (j:=11) (cs':=wkr pT .Ai (.int .i64 (Int.ofNat 1)) (.int .i64 (Int.ofNat 3000)) Kq Kx pt pF v9 d9 vf va false h3.next h4.next 0) (by show 11<16;decide) vao rfl fun h15 n15 f15 K15=>?_
 have m15:h15.next.nat=h14.next.nat:=by rw[n15]
 rw[Am,Ad,Ae]
 refine K15.ldn (o:=8) (ds:=[v9,d9,vf,va,.bool false]) rfl rfl (by simp) ?_
 have g15:∀c,c.nat<h9.next.nat→c≠h7.next→h15.at c=h9.at c:=fun c hc h1=>by rw[f15 c h1,x1214.2 c (by omega),f12 c h1,x911.2 c hc]
 have Q15:=Q9.of (g15 _ (by omega) (pne (by omega)))
 refine Q15.stn (o:=0) (ds:=[v9,d9,vf,va,.bool false]) (cs':=[v9,d9,vf,va,.bool false]) rfl (by decide) (by simp) rfl fun h16 n16 f16 Q16=>?_
 have m16:h16.next.nat=h15.next.nat:=by rw[n16]
 refine Q16.ldn (o:=0) (ds:=[v9,d9,vf,va,.bool false]) rfl rfl (by simp) ?_
 have b16:He TTk 8 h8.next.nat h16 v9 (Aco nm s):=b9.frame (by omega) fun c hc hl t m z w e=>by
  rw[f16 c (pne (by omega)),g15 c hc (pne (by omega))]
 have m8:=x08.1
 refine hk h16 v9 d9 vf va ⟨by omega,fun c hc=>?_⟩ ?_ one9 vfo vao
 · rw[f16 c (pne (by omega)),g15 c (by omega) (pne (by omega)),old c (by omega) (pne (by omega)) (pne (by omega)) (pne (by omega)) (pne (by omega)),x08.2 c hc]
 · rcases b16 with e|⟨q,t,m,w,e,a,b,c,d⟩
   · exact .inl e
   · exact .inr ⟨q,t,m,w,e,by omega,b,c,d⟩
theorem Bfv(h:H):Ax env (env.ty THk) [(0,(.func (.func 17) [] [])),(1,(.func (.func 18) [] []))] h=some (.agg [Kq,Kx],h):=by kernel_rfl
theorem c6{h:H}{pT pG pV:P}{fs:List Fl}{nm s:List UInt8}
 (tb:Sq h pT pG pV fs) (tx:Bl fs nm=some s) (hs:s.length≤2048) (hn:nm.length≤1000)
 (ok:TxX (Mz nm s)) (hsz:∀j,j≤(Mz nm s).length→(En [] true ((Mz nm s).take j)).length≤1000) (hln:(Ff s).length≤100000) {k:KV}
 (hk:∀h' vt vd vf va,Exh h h'→He TTk 8 h.next.nat h' vt (Aco nm s)→vd.one=true→vf.one=true→va.one=true→k (.agg [vt,vd,vf,va,.bool false]) h'):
 W1 (.func 6) [.ptr pT 0,S nm,.agg [.Ai,.int .i64 (Int.ofNat 1),.int .i64 (Int.ofNat 3000)]] h k:=by
 refine w6 (n:=1) Bg (g6 ?_)
 unfold Azy
 rw[Fu]
 refine Ft (by simp) ?_
 refine newRow (e:=TCg) (cs:=[.Ai,.int .i64 (Int.ofNat 1),.int .i64 (Int.ofNat 3000)]) rfl fun h1 x1 n1 r1=>?_
 refine newRow (e:=TRs) (cs:=[.Ai,.Ai,.Ai,.Ai,.bool false]) rfl fun h2 x2 n2 r2=>?_
 refine(r1.ext x2 (by omega)).ldn (o:=0) (ds:=[.Ai,.int .i64 (Int.ofNat 1),.int .i64 (Int.ofNat 3000)]) rfl rfl (by simp) ?_
 rw[Bfv,Ad]
 have x02:=x1.trans x2
 refine c16 (tb.ext x02) tx hs hn ok hsz hln fun h3 vt vd vf va x3 b3 o1 o2 o3=>?_
 have m3:=x3.1
 refine(r2.ext x3 (by omega)).stn (o:=0) (ds:=[vt,vd,vf,va,.bool false]) (cs':=[vt,vd,vf,va,.bool false]) rfl (by decide) (by simp) rfl fun h4 n4 f4 r4=>?_
 refine r4.ldn (o:=0) (ds:=[vt,vd,vf,va,.bool false]) rfl rfl (by simp) ?_
 have m4:h4.next.nat=h3.next.nat:=by rw[n4]
 refine hk h4 vt vd vf va ((x02.trans x3).Sm (by omega) n4 f4) ?_ o1 o2 o3
 have b4:He TTk 8 h2.next.nat h4 vt (Aco nm s):=b3.frame (by omega) fun c hc hl t m z w e=>f4 c fun q=>by rw[q] at hl;omega
 rcases b4 with e|⟨q,t,m,w,e,a,b,c,d⟩
 · exact .inl e
 · exact .inr ⟨q,t,m,w,e,by omega,b,c,d⟩
end Go.Den
