/-
 Proof.
-/
import Derived.Test.YtheajahjkmfeaaaGreatDoorLpb
noncomputable section
namespace Go.Den
open Go.RowKit
set_option maxRecDepth 100000
open Go.Lx (Rn bts Bt Er Ke toR Fy Gz Ls Rh Kz Iz Nh idL Qt at0)
abbrev TDg:TypeId:=206
def FrE(e:TypeId)(lo:Nat)(p:P)(h h':H):Prop:=h.next.nat≤h'.next.nat∧∀c,c.nat<h.next.nat→c≠p→(c.nat<lo∨∀t m z w,h.at c≠.row t m z e w)→h'.at c=h.at c
theorem FrE.refl{e:TypeId}{lo:Nat}{p:P}{h:H}:FrE e lo p h h:=⟨Nat.le_refl _,fun _ _ _ _=>rfl⟩
theorem FrE.trans{e:TypeId}{lo:Nat}{p:P}{h h1 h2:H}(a:FrE e lo p h h1)(b:FrE e lo p h1 h2):FrE e lo p h h2:=by
 refine⟨Nat.le_trans a.1 b.1,fun c hc hp hh=>?_⟩
 have e1:=a.2 c hc hp hh
 rw[b.2 c (Nat.lt_of_lt_of_le hc a.1) hp (by rw[e1];exact hh),e1]
theorem Exh.fre{e:TypeId}{lo:Nat}{p:P}{h h':H}(x:Exh h h'):FrE e lo p h h':=⟨x.1,fun c hc _ _=>x.2 c hc⟩
theorem KpS.fre{e:TypeId}{lo:Nat}{p:P}{h h':H}(x:KpS e lo h h'):FrE e lo p h h':=⟨x.1,fun c hc _ hh=>x.2 c hc hh⟩
theorem FrE.put{e:TypeId}{lo:Nat}{p:P}{h h':H}(hn:h'.next=h.next)(hf:∀c,c≠p→h'.at c=h.at c):FrE e lo p h h':=⟨by rw[hn];exact Nat.le_refl _,fun c _ hp _=>hf c hp⟩
theorem Cb.fre{e e':TypeId}{sz lo lo':Nat}{h h':H}{p:P}{v:AV}{M:List (List AV)}(hb:Cb e sz lo h v M)(x:FrE e' lo' p h h')(he:e≠e'){t:Tm}{m z:Nat}{ep:TypeId}{w:Bool}(hp:h.at p=.row t m z ep w)(hep:ep≠e):Cb e sz lo h' v M:=
 hb.frame x.1 fun c hc _ t' m' z' w' ha=>x.2 c hc (fun e2=>by subst e2;rw[hp] at ha;cases ha;exact hep rfl) (.inr fun t2 m2 z2 w2 e2=>by rw[ha] at e2;cases e2;exact he rfl)
theorem FrE.exh{e:TypeId}{lo:Nat}{p:P}{hE h h':H}(a:Exh hE h)(hl:hE.next.nat≤lo)(hp:hE.next.nat≤p.nat)(b:FrE e lo p h h'):Exh hE h':=
 ⟨Nat.le_trans a.1 b.1,fun c hc=>by rw[b.2 c (Nat.lt_of_lt_of_le hc a.1) (fun e=>by subst e;omega) (.inl (by omega)),a.2 c hc]⟩
def dgC(n:Nat)(sp:List AV):List AV:=.int .i64 (Int.ofNat n)::sp
def Bpc:Tm:=Aj [.int .i64 (.ofNat 0),.str 0 0,.int .i64 (.ofNat 0),.int .i64 (.ofNat 0)] 0 .e
theorem Ba7(a b c d:AV)(h:H):Ap env 31 (fun e ei=>Ak 1 [(0,.agg [a,b,c,d])] h e ei)=some (.slice h.next 0 1 4 true,h.new (.row (Aj [a,b,c,d] 0 Bpc) 4 0 TDg true)):=by kernel_rfl
theorem Bj9(x y:AV)(h:H):Ar env .append [31,31] [x,y] h=Co (some false) x y h TDg (Hz TDg):=by kernel_rfl
theorem Bda:(Hz TDg).size=4:=by kernel_rfl
theorem A1e{n:Nat}(hn:n≤1099511627776):Bv (Hz TDg) n=true:=Lv (by kernel_rfl) (by kernel_rfl) hn
theorem A84(kk:Int)(l c:Nat)(a b:Int)(h:H):Ax env (env.ty TDg) [(0,(.int .i64 kk)),(1,.agg [.str l c,.int .i64 a,.int .i64 b])] h=some (.agg [.int .i64 kk,.str l c,.int .i64 a,.int .i64 b],h):=by kernel_rfl
structure Wd(h:H)(pW:P)(fl:List UInt8)(L:List Rn)(a:Nat)(D:List (List AV))(sp:Bool)(q:Int):Prop where
 w:∃vd,Wk h pW fl L a vd sp q∧Cb TDg 4 (pW.nat+1) h vd D
 len:D.length≤2*a+2
theorem Wk.Wm{h:H}{pW:P}{fl:List UInt8}{L:List Rn}{a:Nat}{vd:AV}{sp:Bool}{q:Int}(w:Wk h pW fl L a vd sp q):∃t,h.at pW=.row t 6 0 TWk true:=by
 obtain⟨t,h1,_⟩:=w.row;exact⟨t,h1⟩
section
variable{h:H}{pW:P}{fl:List UInt8}{L:List Rn}{a:Nat}{D:List (List AV)}{sp:Bool}{q:Int}
theorem Wd.ext{h':H}(s:Wd h pW fl L a D sp q)(x:Exh h h'):Wd h' pW fl L a D sp q:=by
 obtain⟨vd,w,b⟩:=s.w
 exact⟨⟨vd,w.ext x,b.ext x⟩,s.len⟩
theorem Wd.n(s:Wd h pW fl L a D sp q):pW.nat<h.next.nat:=by obtain⟨vd,w,b⟩:=s.w;exact w.n
theorem Wd.kps{e:TypeId}{lo:Nat}{h':H}(s:Wd h pW fl L a D sp q)(x:KpS e lo h h')(hl:pW.nat+1≤lo)(he:TDg≠e):Wd h' pW fl L a D sp q:=by
 obtain⟨vd,w,b⟩:=s.w
 exact⟨⟨vd,w.keep x.1 fun c hc=>x.2 c (by have:=w.n;omega) (.inl (by omega)),b.kps x he⟩,s.len⟩
theorem Wd.set{h':H}{vd:AV}{b:Nat}{sp':Bool}{q':Int}(s:Wd h pW fl L a D sp q)(hb:Cb TDg 4 (pW.nat+1) h vd D)(hn:h'.next=h.next)(hf:∀c,c≠pW→h'.at c=h.at c)(hl:a≤b)(w:Wk h' pW fl L b vd sp' q'):Wd h' pW fl L b D sp' q':=by
 obtain⟨_,w0,_⟩:=s.w
 obtain⟨t,ht⟩:=w0.Wm
 refine⟨⟨vd,w,hb.frame (by rw[hn];exact Nat.le_refl _) fun c _ hc _ _ _ _ _=>hf c fun e=>by subst e;omega⟩,by have:=s.len;omega⟩
theorem Wd.pos{K:Int→H→Prop}(s:Wd h pW fl L a D sp q)(hk:K (Int.ofNat a) h):oK (Ag (.ptr pW 0) h) fun v1 h2=>Ac 2 v1 fun v3=>ld1 v3 h2 fun v4=>asI .i64 v4 fun n=>K n h2:=by
 obtain⟨vd,w,_⟩:=s.w;exact w.pos hk
theorem Wd.l{K:AV→H→Prop}(s:Wd h pW fl L a D sp q)(hk:∀v,SlR 3 h v (cel L)→K v h):oK (Ag (.ptr pW 0) h) fun v1 h2=>Ac 1 v1 fun v3=>ld1 v3 h2 fun v4=>K v4 h2:=by
 obtain⟨vd,w,_⟩:=s.w;exact w.l hk
theorem Wd.quo{K:Int→H→Prop}(s:Wd h pW fl L a D sp q)(hk:K q h):oK (Ag (.ptr pW 0) h) fun v1 h2=>Ac 5 v1 fun v3=>ld1 v3 h2 fun v4=>asI .i64 v4 fun n=>K n h2:=by
 obtain⟨vd,w,_⟩:=s.w;exact w.quo hk
theorem Wd.setPos{K:H→Prop}(s:Wd h pW fl L a D sp q){b:Nat}(hl:a≤b)(hk:∀h',FrE TDg (pW.nat+1) pW h h'→h'.next=h.next→(∀c,c≠pW→h'.at c=h.at c)→Wd h' pW fl L b D sp q→K h'):oK (Ag (.ptr pW 0) h) fun v1 h2=>Ac 2 v1 fun v3=>st1 v3 (.int .i64 (Int.ofNat b)) h2 K:=by
 obtain⟨vd,w,hb⟩:=s.w
 exact w.setPos fun h' n f w'=>hk h' (.put n f) n f (s.set hb n f hl w')
theorem Wd.Oe{K:H→Prop}(s:Wd h pW fl L a D sp q){b:Bool}(hk:∀h',FrE TDg (pW.nat+1) pW h h'→h'.next=h.next→(∀c,c≠pW→h'.at c=h.at c)→Wd h' pW fl L a D b q→K h'):oK (Ag (.ptr pW 0) h) fun v1 h2=>Ac 4 v1 fun v3=>st1 v3 (.bool b) h2 K:=by
 obtain⟨vd,w,hb⟩:=s.w
 exact w.Oe fun h' n f w'=>hk h' (.put n f) n f (s.set hb n f (Nat.le_refl _) w')
theorem Wd.Aj9{K:H→Prop}(s:Wd h pW fl L a D sp q){b:Int}(hk:∀h',FrE TDg (pW.nat+1) pW h h'→Wd h' pW fl L a D sp b→K h'):oK (Ag (.ptr pW 0) h) fun v1 h2=>Ac 5 v1 fun v3=>st1 v3 (.int .i64 b) h2 K:=by
 obtain⟨vd,w,hb⟩:=s.w
 exact w.Aj9 fun h' n f w'=>hk h' (.put n f) (s.set hb n f (Nat.le_refl _) w')
theorem Wd.tell{K:H→Prop}(s:Wd h pW fl L a D sp q)(hl:L.length≤1000000)(ha1:a≤1000000){n f t:Nat}(hf:f<L.length)(ht:0<t)(htl:t≤L.length)(hD:D.length+1≤2*a+2)(hk:∀h',FrE TDg (pW.nat+1) pW h h'→Wd h' pW fl L a (D++[dgC n (St fl L f t)]) sp q→K h'):
 oK (Ag (.ptr pW 0) h) fun v21 h22=>Ac 3 v21 fun v23=>ld1 v23 h22 fun v24=>
  W1 (.func 121) [.ptr pW 0,.int .i64 (Int.ofNat f),.int .i64 (Int.ofNat t)] h22 fun v26 h27=>
   ld1 v23 h27 fun v28=>eqC v28 v24<|
    oK (Ax env (env.ty TDg) [(0,(.int .i64 (Int.ofNat n))),(1,v26)] h27) fun v29 h30=>
     oK (Ap env 31 (fun e ei=>Ak 1 [(0,v29)] h30 e ei)) fun v31 h32=>
      ld1 v23 h32 fun v33=>eqC v33 v24<|
       oK (Ar env .append [31,31] [v24,v31] h32) fun v34 h35=>
        oK (Ag (.ptr pW 0) h35) fun v36 h37=>Ac 3 v36 fun v38=>st1 v38 v34 h37 K:=by
 obtain⟨vd,w,hb⟩:=s.w
 have hlen:=s.len
 obtain⟨t0,r0,g0,g1,g2,g3,g4,g5,g6⟩:=w.row
 have ld:∀{h':H}{K:AV→Prop},Exh h h'→K vd→Go.Den.ld1 (.ptr pW (0+3)) h' K:=fun x hK=>by
  refine Eh (by rw[x.2 _ w.n];exact r0) (by decide) ?_
  rw[show Aw t0 (0+3)=vd from g4];exact hK
 rw[Am,Ad,Ae]
 refine ld .refl ?_
 refine Ba2 w hf ht htl (by omega) fun h1 x1=>?_
 refine ld x1 ?_
 rw[Agc hb.sl]
 unfold St
 rw[A84,Ad,Ba7,Ad]
 refine ld (x1.trans .new) ?_
 rw[Agc hb.sl,Bj9]
 have w1:=w.ext x1
 have b1:=hb.ext x1
 refine Po (lo:=pW.nat+1) (ds:=[.int .i64 (Int.ofNat n),S fl,.int .i64 (Int.ofNat (Ke L f)),.int .i64 (Int.ofNat (toR L (t-1)))]) (.inr b1) rfl Bda (A1e (by omega)) (by have:=w1.n;omega) fun v2 h2 b2 k2=>?_
 have w2:Wk h2 pW fl L a vd sp q:=w1.keep k2.1 fun c hc=>k2.2 c (by have:=w1.n;omega) (.inl hc)
 refine w2.Bdi b2.one fun h3 n3 f3 w3=>?_
 refine hk h3 ((x1.fre.trans k2.fre).trans (.put n3 f3)) ⟨⟨v2,w3,?_⟩,by rw[List.length_append];exact hD⟩
 exact b2.frame (by rw[n3];exact Nat.le_refl _) fun c _ hc _ _ _ _ _=>f3 c fun e=>by subst e;omega
def Asd(s:List UInt8):Bool:=match Nh s with
 |some k=>(Fy (at0 s k) (s.drop (k+1))).isNone
 |none=>false
def Abd(s:List UInt8):Nat×Nat:=match Nh s with
 |some k=>match Fy (at0 s k) (s.drop (k+1)) with
  |some n=>(if at0 s k=34 then 4 else 3,k+1+n)
  |none=>(0,0)
 |none=>(0,0)
theorem A0y{B:List UInt8}{a k:Nat}(h:Nh (B.drop a)=some k):a+k<B.length∧bt B (a+k)≠92:=by
 have b0:at0 (B.drop a) 0=bt B a:=Jg
 have b1:at0 (B.drop a) 1=bt B (a+1):=Jg
 have b2:at0 (B.drop a) 2=bt B (a+2):=Jg
 have key:bt B (a+k)=34∨bt B (a+k)=39:=by
  unfold Nh at h
  rw[b0,b1,b2] at h
  split at h
  · rename_i c;cases h;exact c
  · split at h
    · rename_i c;cases h;exact .inl c.2.2
    · split at h
      · rename_i c;cases h;exact c.2
      · cases h
 refine⟨?_,fun e=>by rcases key with k|k<;>(rw[k] at e;exact absurd e (by decide))⟩
 rcases Nat.lt_or_ge (a+k) B.length with h1|h1
 · exact h1
 · rw[Qb h1] at key
   rcases key with k|k<;>exact absurd k (by decide)
theorem Bo1(s:Wd h pW fl L a D sp q)(hl:L.length≤1000000)(ha:a<L.length)(hD:D.length+1≤2*a+2){k:KV}(hk:∀h' D' q',FrE TDg (pW.nat+1) pW h h'→Wd h' pW fl L a D' sp q'→(Asd ((bts L).drop a)=false→D'=D∧q'=q)→D'.length≤D.length+1→k (.tuple [.int .i64 (Int.ofNat (Abd ((bts L).drop a)).1),.int .i64 (Int.ofNat (Abd ((bts L).drop a)).2)]) h'):W1 (.func 165) [.ptr pW 0] h k:=by
 refine Bcd (n:=2) Bg (Bno ?_)
 unfold Aet
 obtain⟨vd,w,hb⟩:=s.w
 refine Bov w hl (by omega) fun h1 x1=>?_
 have s1:=s.ext x1
 rw[Bj]
 unfold Abd Asd at hk
 cases hL:Nh ((bts L).drop a) with
 |none=>
  rw[hL] at hk
  exact Dp rfl (hk h1 D q x1.fre s1 (fun _=>⟨rfl,rfl⟩) (Nat.le_succ _))
 |some kk=>
  rw[hL] at hk
  obtain⟨hkl,hk92⟩:=A0y hL
  rw[Cl] at hkl
  have e0:at0 ((bts L).drop a) kk=bt (bts L) (a+kk):=Jg
  simp only[] at hk
  rw[e0,List.drop_drop] at hk
  show cnd (Ca (Int.ofNat kk) (Int.ofNat 0)) _ _
  refine Cp (by rw[ilt];simp) ?_
  obtain⟨vd1,w1,hb1⟩:=s1.w
  refine Bou w1 hl hkl hk92 ?_
  rw[Bj,show Ca (Int.ofNat 0) (Int.ofNat (Np (bt (bts L) (a+kk)) (bts L) a (kk+1)))=decide (0<Np (bt (bts L) (a+kk)) (bts L) a (kk+1)) from ilt _ _]
  unfold Np
  cases hq:Fy (bt (bts L) (a+kk)) ((bts L).drop (a+(kk+1))) with
  |some n=>
   rw[hq] at hk
   refine Dp (decide_eq_true (show 0<kk+1+n by omega)) ?_
   refine Ar6 w1 (by omega) ?_
   unfold ub
   rw[Bj,show Bx (Int.ofNat (bt (bts L) (a+kk)).toNat) (Int.ofNat 34)=decide (bt (bts L) (a+kk)=34) from Tp _ 34 (by decide)]
   have fin:=hk h1 D q x1.fre s1 (fun _=>⟨rfl,rfl⟩) (Nat.le_succ _)
   refine Br (fun e=>?_) (fun e=>?_)
   · rw[if_pos (of_decide_eq_true e)] at fin
     refine Avb ?_
     unfold Zu
     exact fin
   · rw[if_neg (of_decide_eq_false e)] at fin
     refine Avb ?_
     unfold Zu
     exact fin
  |none=>
   rw[hq] at hk
   refine Cp (decide_eq_false (by show¬0<0;omega)) ?_
   refine s1.pos (Bw (by omega) (s1.quo ?_))
   refine Br (fun e=>?_) (fun e=>?_)
   · have e1:fI (wrap .i64 (Bq (Int.ofNat (a+kk)) (Int.ofNat 1)))=fun K=>K (Int.ofNat (a+kk+1)):=by
      funext K
      rw[Xu,Pu (by omega),Gp]
     rw[e1]
     refine s1.tell hl (by omega) (n:=2) hkl (by omega) (by omega) hD fun h2 x2 s2=>?_
     refine s2.Aj9 fun h3 x3 s3=>?_
     exact hk h3 _ _ ((x1.fre.trans x2).trans x3) s3 (fun e=>by cases e) (by rw[List.length_append];exact Nat.le_refl _)
   · exact hk h1 D q x1.fre s1 (fun e=>by cases e) (Nat.le_succ _)
theorem Axw{x y:UInt8}{r:List UInt8}:Kz (x::y::r)=if x=42∧y=47 then some 2 else(Kz (y::r)).map (·+1):=by rw[Kz]
theorem Ba5{x:UInt8}:Kz [x]=none:=by rw[Kz]
theorem Axx:Kz []=none:=by rw[Kz]
theorem A8g{B:List UInt8}{a:Nat}{x y:UInt8}(hx:x≠0)(hy:y≠0):List.isPrefixOf [x,y] (B.drop a)=(decide (bt B a=x)&&decide (bt B (a+1)=y)):=by
 rcases Nat.lt_or_ge a B.length with h|h
 · rw[drop_cons h,Ii,Jk h]
   rcases Nat.lt_or_ge (a+1) B.length with h1|h1
   · rw[drop_cons h1,Ii,Jk h1,show List.isPrefixOf [] (B.drop (a+1+1))=true by cases B.drop (a+1+1)<;>rfl,Bool.and_true]
     congr 1<;>exact decide_eq_decide.2 eq_comm
   · rw[List.drop_eq_nil_of_le h1,Qb h1,decide_eq_false (show¬(0:UInt8)=y from fun e=>hy e.symm)]
     show(_&&false)=(_&&false)
     rw[Bool.and_false,Bool.and_false]
 · rw[List.drop_eq_nil_of_le h,Qb h,decide_eq_false (fun e=>hx e.symm)];rfl
theorem Axt(hl:L.length≤1000000){h0':H}{k:KV}{e:Nat}(hk:∀h',FrE TDg (pW.nat+1) pW h0' h'→Wd h' pW fl L e D sp q→k (.tuple [.bool true,.bool false]) h'):∀(n p:Nat){h:H},L.length-p<n→p≤L.length→e=p+(((bts L).drop p).takeWhile (·≠10)).length→FrE TDg (pW.nat+1) pW h0' h→Wd h pW fl L p D sp q→(Zz W1 k n).a1 (.ptr pW 0) h
 |0,_,_,hh,_,_,_,_=>absurd hh (Nat.not_lt_zero _)
 |n+1,p,h,hh,hp,he,x,s=>by
  refine A8e ?_
  unfold Ae6
  refine s.pos (s.l fun v hr=>?_)
  rw[hr.len,Dh,ilt]
  have fin:(L.length≤p∨∃h1:p<L.length,L[p].1=10)→k (.tuple [.bool true,.bool false]) h:=fun c=>by
   have e0:e=p:=by
    rcases c with c|⟨c,c1⟩
    · rw[List.drop_eq_nil_of_le (by rw[Cl];exact c)] at he;exact he
    · have c':p<(bts L).length:=by rw[Cl];exact c
      rw[drop_cons c',Se c,List.takeWhile_cons,if_neg (by simpa using c1)] at he;exact he
   rw[e0] at hk
   exact hk h x s
  refine Fa (fun c=>?_) (fun c=>Cp rfl (fin (.inl (by have:=of_decide_eq_false c;omega))))
  have c:p<L.length:=of_decide_eq_true c
  have c':p<(bts L).length:=by rw[Cl];exact c
  refine s.l fun v2 hr2=>s.pos (Xx hr2 c ?_)
  rw[show Bx (Int.ofNat L[p].1.toNat) (Int.ofNat 10)=decide (L[p].1=10) from Tp _ 10 (by decide),Gv]
  refine Br (fun d=>?_) (fun d=>fin (.inr ⟨c,by simpa using d⟩))
  have d:L[p].1≠10:=by simpa using d
  refine s.pos (Bw (by omega) (s.setPos (b:=p+1) (Nat.le_succ _) fun h1 x1 _ _ s1=>?_))
  refine Axt hl hk n (p+1) (by omega) c ?_ (x.trans x1) s1
  rw[drop_cons c',Se c,List.takeWhile_cons,if_pos (by simpa using d),List.length_cons] at he
  omega
theorem Axs (hl : L.length ≤ 1000000) {h0' : H} {a0 : Nat} (ha0 : a0 + 2 ≤ L.length) (hD : D.length + 1 ≤ 2 * a0 + 2) {k : KV} (hk : ∀ h' D' p' o, FrE TDg (pW.nat + 1) pW h0' h' → Wd h' pW fl L p' D' sp q → (o = false → D' = D) → D'.length ≤ D.length + 1 → (match Kz ((bts L).drop (a0 + 2)) with
      | some n => p' = a0 + 2 + n ∧ o = false
      | none => p' = L.length ∧ o = true) → k (.tuple [.bool true, .bool o]) h') : ∀ (n p : Nat) {h : H}, L.length - p < n → a0 + 2 ≤ p → p ≤ L.length → (Kz ((bts L).drop (a0 + 2)) = (Kz ((bts L).drop p)).map (· + (p - (a0 + 2)))) → FrE TDg (pW.nat + 1) pW h0' h → Wd h pW fl L p D sp q → (Zz W1 k n).a2 (.ptr pW 0) (Int.ofNat a0) h
  | 0, _, _, hh, _, _, _, _, _ => absurd hh (Nat.not_lt_zero _)
  | n + 1, p, h, hh, hap, hp, hB, x, s => by
    refine A8d ?_
    unfold Ae5
    refine s.pos (s.l fun v hr => ?_)
    rw [hr.len, Dh, ilt]
    refine Br (fun c => ?_) (fun c => ?_)
    · have c : p < L.length := of_decide_eq_true c
      have c' : p < (bts L).length := by rw [Cl]; exact c
      obtain ⟨vd, w, hb⟩ := s.w
      refine Axq (s := [42, 47]) w (by omega) (by show p + 2 ≤ _; omega) (by omega) ?_
      rw [Bn, A8g (by decide) (by decide)]
      refine Br (fun d => ?_) (fun d => ?_)
      · simp only [Bool.and_eq_true, decide_eq_true_eq] at d
        have c1 : p + 1 < (bts L).length := by
          rcases Nat.lt_or_ge (p + 1) (bts L).length with h1 | h1
          · exact h1
          · rw [Qb h1] at d; exact absurd d.2 (by decide)
        have c1' : p + 1 < L.length := by rw [Cl] at c1; exact c1
        rw [drop_cons c', drop_cons c1, Axw, if_pos ⟨by rw [← Jk c']; exact d.1, by rw [← Jk c1]; exact d.2⟩] at hB
        refine s.pos (Bw (by omega) (s.setPos (b := p + 2) (by omega) fun h1 x1 _ _ s1 => ?_))
        refine hk h1 D (p + 2) false (x.trans x1) s1 (fun _ => rfl) (Nat.le_succ _) ?_
        rw [hB]
        show p + 2 = a0 + 2 + (2 + (p - (a0 + 2))) ∧ false = false
        exact ⟨by omega, rfl⟩
      · refine s.pos (Bw (by omega) (s.setPos (b := p + 1) (Nat.le_succ _) fun h1 x1 _ _ s1 => ?_))
        refine Axs hl ha0 hD hk n (p + 1) (by omega) (by omega) c ?_ (x.trans x1) s1
        rw [hB, drop_cons c']
        have e3 : ∀ o : Option Nat, (o.map (· + 1)).map (· + (p - (a0 + 2))) = o.map (· + (p + 1 - (a0 + 2))) := fun o => by
          cases o with
          | none => rfl
          | some m =>
            show some (m + 1 + (p - (a0 + 2))) = some (m + (p + 1 - (a0 + 2)))
            congr 1; omega
        cases hd : (bts L).drop (p + 1) with
        | nil => rw [Ba5, Axx]; rfl
        | cons y r =>
          have c1 : p + 1 < (bts L).length := by
            rcases Nat.lt_or_ge (p + 1) (bts L).length with h1 | h1
            · exact h1
            · rw [List.drop_eq_nil_of_le h1] at hd; cases hd
          have hy : bt (bts L) (p + 1) = y := by
            rw [Jk c1]
            rw [drop_cons c1] at hd
            injection hd
          have nn : ¬ ((bts L)[p] = 42 ∧ y = 47) := fun e => by
            rw [← Jk c', ← hy] at e
            rw [decide_eq_true e.1, decide_eq_true e.2] at d; cases d
          rw [Axw, if_neg nn, e3]
    · have c : p = L.length := by have := of_decide_eq_false c; omega
      subst c
      rw [show (bts L).drop L.length = [] from List.drop_eq_nil_of_le (by rw [Cl]; exact Nat.le_refl _), Axx] at hB
      have e2 : fI (wrap .i64 (Bq (Int.ofNat a0) (Int.ofNat 2))) = fun K => K (Int.ofNat (a0 + 2)) := by
        funext K
        rw [Xu, Pu (by omega), Gp]
      rw [e2]
      refine s.tell hl hl (n := 1) (f := a0) (t := a0 + 2) (by omega) (by omega) ha0 (by omega) fun h1 x1 s1 => ?_
      refine hk h1 _ L.length true (x.trans x1) s1 (fun e => by cases e) (by rw [List.length_append]; exact Nat.le_refl _) ?_
      rw [hB]
      exact ⟨rfl, rfl⟩
theorem Bjp(s:Wd h pW fl L a D sp q)(hl:L.length≤1000000)(ha:a<L.length)(hD:D.length+1≤2*a+2){k:KV}
 (hk:∀h' D' p' i o,FrE TDg (pW.nat+1) pW h h'→Wd h' pW fl L p' D' sp q→(o=false→D'=D)→D'.length≤D.length+1→(match Rh ((bts L).drop a) with
  |none=>p'=a∧i=false∧o=false
  |some (n,b)=>p'=a+n∧i=true∧o=b)→k (.tuple [.bool i,.bool o]) h'):W1 (.func 119) [.ptr pW 0] h k:=by
 refine Bcm (n:=L.length+3) Bg (Bnx ?_)
 unfold Ae7
 have a0:at0 ((bts L).drop a) 0=bt (bts L) a:=Jg
 have a1:at0 ((bts L).drop a) 1=bt (bts L) (a+1):=Jg
 obtain⟨vd,w,hb⟩:=s.w
 unfold Rh at hk
 rw[a0,a1] at hk
 refine s.pos ?_
 refine Axq (s:=[47,47]) w (by omega) (by show a+2≤_;omega) (by omega) ?_
 rw[Bn,A8g (by decide) (by decide)]
 refine Br (fun d=>?_) (fun d=>?_)
 · simp only[Bool.and_eq_true,decide_eq_true_eq] at d
   rw[if_neg (fun e=>e d.1),if_pos d.2] at hk
   exact Axt hl (fun h' x' s'=>hk h' D _ true false x' s' (fun _=>rfl) (Nat.le_succ _) ⟨rfl,rfl,rfl⟩) _ a (by omega) (by omega) rfl .refl s
 refine Axq (s:=[47,42]) w (by omega) (by show a+2≤_;omega) (by omega) ?_
 rw[Bn,A8g (by decide) (by decide),Gv]
 refine Br (fun d2=>?_) (fun d2=>?_)
 · have hno:k (.tuple [.bool false,.bool false]) h:=by
    by_cases c0:bt (bts L) a=47
    · have c1:bt (bts L) (a+1)≠47:=fun e=>by rw[decide_eq_true c0,decide_eq_true e] at d;cases d
      have c2:bt (bts L) (a+1)≠42:=fun e=>by rw[decide_eq_true c0,decide_eq_true e] at d2;cases d2
      rw[if_neg (fun e=>e c0),if_neg c1,if_pos c2] at hk
      exact hk h D a false false .refl s (fun _=>rfl) (Nat.le_succ _) ⟨rfl,rfl,rfl⟩
    · rw[if_pos c0] at hk
      exact hk h D a false false .refl s (fun _=>rfl) (Nat.le_succ _) ⟨rfl,rfl,rfl⟩
   exact hno
 · have d2:bt (bts L) a=47∧bt (bts L) (a+1)=42:=by
    simpa using d2
   have c1:bt (bts L) (a+1)≠47:=fun e=>by rw[e] at d2;exact absurd d2.2 (by decide)
   rw[if_neg (fun e=>e d2.1),if_neg c1,if_neg (fun e=>e d2.2),List.drop_drop] at hk
   have hlt:a+1<L.length:=by
    rcases Nat.lt_or_ge (a+1) L.length with h1|h1
    · exact h1
    · rw[Xe h1] at d2;exact absurd d2.2 (by decide)
   refine s.pos (Bw (by omega) (s.setPos (b:=a+2) (by omega) fun h1 x1 _ _ s1=>?_))
   refine Axs hl (a0:=a) (by omega) hD (fun h' D' p' o x' s' o1 o2 o3=>?_) _ (a+2) (by omega) (Nat.le_refl _) (by omega) (by rw[Nat.sub_self];cases Kz ((bts L).drop (a+2))<;>rfl) x1 s1
   refine hk h' D' p' true o x' s' o1 o2 ?_
   cases hb2:Kz ((bts L).drop (a+2)) with
   |some n=>
    rw[hb2] at o3
    exact⟨by rw[o3.1];omega,rfl,o3.2⟩
   |none=>
    rw[hb2] at o3
    refine⟨?_,rfl,o3.2⟩
    rw[o3.1,List.length_drop,Cl];omega
end
end Go.Den
