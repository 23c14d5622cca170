/-
 Proof.
-/
import Derived.Test.YtcnmehbkpaoolaaGreatDoorLexk
import Derived.Test.YtcnmehbkpaoolaaGreatDoorToks
import Derived.Test.YtcnmehbkpaoolaaGreatDoorRunE
import Derived.KernelRfl
import Derived.Test.YtcnmehbkpaoolaaGreatDoorAwk
import Derived.Test.YtcnmehbkpaoolaaGreatDoorL4
namespace Go.Den
open Go.RowKit
set_option maxRecDepth 100000
open Go.Lx (Jz bts Xn)
def Wn(e:TypeId)(sz a lo:Nat)(h:H)(v:AV)(L:List (List AV)):Prop:=(v=.Ad∧L=[])∨∃q t m z w,v=.slice q 0 L.length sz false∧a≤q.nat∧q.nat<lo∧h.at q=.row t m z e w∧L.length*sz≤m∧L.length*sz≤0+m∧z≤L.length*sz∧Mv sz 0 t L
theorem Wn.frame{e:TypeId}{sz a lo:Nat}{h h':H}{v:AV}{L:List (List AV)}(hb:Wn e sz a lo h v L)(hf:∀c,a≤c.nat→c.nat<lo→(∃t m z w,h.at c=.row t m z e w)→h'.at c=h.at c):Wn e sz a lo h' v L:=by
 rcases hb with⟨rfl,rfl⟩|⟨q,t,m,z,w,rfl,h1,h2,h3,h4⟩
 · exact .inl ⟨rfl,rfl⟩
 · exact .inr ⟨q,t,m,z,w,rfl,h1,h2,by rw[hf q h1 h2 ⟨_,_,_,_,h3⟩];exact h3,h4⟩
theorem Wn.mono{e:TypeId}{sz a lo lo':Nat}{h:H}{v:AV}{L:List (List AV)}(hb:Wn e sz a lo h v L)(hl:lo≤lo'):Wn e sz a lo' h v L:=by
 rcases hb with⟨rfl,rfl⟩|⟨q,t,m,z,w,rfl,h1,h2,h3,h4⟩
 · exact .inl ⟨rfl,rfl⟩
 · exact .inr ⟨q,t,m,z,w,rfl,h1,Nat.lt_of_lt_of_le h2 hl,h3,h4⟩
theorem Cv.b{e:TypeId}{sz a lo:Nat}{h:H}{v:AV}{L:List (List AV)}(hb:Cv e sz lo h v L)(hl:a≤lo):Wn e sz a h.next.nat h v L:=by
 rcases hb with⟨rfl,rfl⟩|⟨q,t,m,z,w,rfl,h1,h2,h3,h4,h5,h6⟩
 · exact .inl ⟨rfl,rfl⟩
 · exact .inr ⟨q,t,m,z,w,rfl,Nat.le_trans hl h1,h2,h3,h4,by omega,h5,h6⟩
def Rx(e:TypeId)(sz lo:Nat)(h:H)(v:AV)(L:List (List AV)):Prop:=(v=.Ad∧L=[])∨∃q t m w,v=.slice q 0 L.length sz false∧lo≤q.nat∧q.nat<h.next.nat∧h.at q=.row t m 0 e w∧L.length*sz≤m∧Mv sz 0 t L
theorem Rx.n{e:TypeId}{sz lo:Nat}{h:H}{v:AV}{L:List (List AV)}(hb:Rx e sz lo h v L):Cv e sz lo h v L:=by
 rcases hb with⟨rfl,rfl⟩|⟨q,t,m,w,rfl,h1,h2,h3,h4,h6⟩
 · exact .inl ⟨rfl,rfl⟩
 · exact .inr ⟨q,t,m,0,w,rfl,h1,h2,h3,h4,Nat.zero_le _,h6⟩
theorem Rx.frame{e:TypeId}{sz lo:Nat}{h h':H}{v:AV}{L:List (List AV)}(hb:Rx e sz lo h v L)(hn:h.next.nat≤h'.next.nat)(hf:∀c,c.nat<h.next.nat→lo≤c.nat→(∀t m z w,h.at c=.row t m z e w→h'.at c=h.at c)):Rx e sz lo h' v L:=by
 rcases hb with⟨rfl,rfl⟩|⟨q,t,m,w,rfl,h1,h2,h3,h4⟩
 · exact .inl ⟨rfl,rfl⟩
 · exact .inr ⟨q,t,m,w,rfl,h1,by omega,by rw[hf q h2 h1 _ _ _ _ h3];exact h3,h4⟩
theorem Rx.ext{e:TypeId}{sz lo:Nat}{h h':H}{v:AV}{L:List (List AV)}(hb:Rx e sz lo h v L)(hx:Exh h h'):Rx e sz lo h' v L:=hb.frame hx.1 fun c hc _ _ _ _ _ _=>hx.2 c hc
theorem Rx.kp{e e':TypeId}{sz lo lo':Nat}{h h':H}{v:AV}{L:List (List AV)}(hb:Rx e sz lo h v L)(hx:Kp e' lo' h h')(he:e≠e'):Rx e sz lo h' v L:=hb.frame hx.1 fun c hc _ t m z w ha=>hx.2 c hc (.inr ⟨t,m,z,e,w,ha,he⟩)
theorem Bgr{e:TypeId}{sz lo:Nat}{ei:TI}{h h0:H}{p:P}{v:AV}{L:List (List AV)}{ds:List AV}{t:Tm}(hb:Rx e sz lo h v L)(hd:ds.length=sz)(hsz:ei.size=sz)(hf:Cf ei (L.length+1)=true)(hlo:lo≤h.next.nat)(hh:h0.new (.row (Ai ds 0 t) sz 0 e true)=h)(hp:p=h0.next){k:KV}(hk:∀v' h',Rx e sz lo h' v' (L++[ds])→KpS e lo h h'→k v' h'):
 oK (Dc (some false) v (.slice p 0 1 sz true) h e ei) k:=by
 have hx:Bv h sz (.slice p 0 1 sz true)=some (1,ds):=by subst hh hp;exact Afo hd
 generalize (AV.slice p 0 1 sz true)=x at*
 have hl:Em v=L.length:=by rcases hb with⟨rfl,rfl⟩|⟨_,_,_,_,rfl,_⟩<;>rfl
 have hok:Eu v=true:=by rcases hb with⟨rfl,rfl⟩|⟨_,_,_,_,rfl,_⟩<;>rfl
 have e0:Dc (some false) v x h e ei=Ip e sz v 1 ds h:=by
  show(Option.rec none (fun p=>Bool.rec none (Bool.rec (Ip e ei.size v p.1 p.2 h) (some (v,h)) (Nat.beq p.1 0)) (Ah (Eu v) (Cf ei (Nat.add (Em v) p.1)))) (Bv h ei.size x):Option (AV×H))=_
  rw[hsz,hx]
  show(Bool.rec none (Ip e sz v 1 ds h) (Ah (Eu v) (Cf ei (Nat.add (Em v) 1))):Option (AV×H))=_
  rw[hl,hok,show Cf ei (Nat.add L.length 1)=true from hf];rfl
 rw[e0]
 rcases hb with⟨rfl,rfl⟩|⟨q,t,m,w,rfl,h1,h2,h3,h4,h6⟩
 · show oK (some (AV.slice h.next 0 1 sz false,h.new (.row (Ai ds 0 .e) (Nat.mul 1 sz) 0 e false))) k
   rw[Ae]
   refine hk (.slice h.next 0 1 sz false) (h.new (.row (Ai ds 0 .e) (Nat.mul 1 sz) 0 e false)) (.inr ⟨h.next,Ai ds 0 .e,Nat.mul 1 sz,false,rfl,hlo,by rw[Be];omega,Ay _ _,Nat.le_refl _,?_⟩) .new
   have:=Mv.app (t:=.e) (Mv.nil (sz:=sz) (o:=0)) hd
   rwa [show([]:List (List AV)).length*sz=0 by simp] at this
 · have e1:Ip e sz (.slice q 0 L.length sz false) 1 ds h=(Bool.rec none (Te e q 0 L.length 1 sz ds h (Dx (h.at q))) (Nat.beq sz sz):Option (AV×H)):=rfl
   rw[e1,Nat.beq_refl,h3]
   show oK (Bool.rec none (some (.slice h.next 0 (Nat.add L.length 1) sz false,(h.put q .dead).new (.row (Ai ds (Nat.add 0 (Nat.mul L.length sz)) t) (Nat.add 0 (Nat.mul (Nat.add L.length 1) sz)) 0 e false)))
    (Ah (Ah (Nat.beq e e) (Nat.beq 0 0)) (Ah (Nat.ble (Nat.add 0 (Nat.mul L.length sz)) m) (Nat.ble 0 (Nat.add 0 (Nat.mul L.length sz)))))) k
   have a1:Nat.add 0 (Nat.mul L.length sz)=L.length*sz:=Nat.zero_add _
   rw[a1,Nat.beq_refl,Nat.ble_eq_true_of_le h4,Nat.ble_eq_true_of_le (Nat.zero_le _)]
   show oK (some (AV.slice h.next 0 (Nat.add L.length 1) sz false,(h.put q .dead).new (.row (Ai ds (L.length*sz) t) (Nat.add 0 (Nat.mul (Nat.add L.length 1) sz)) 0 e false))) k
   rw[Ae]
   refine hk _ _ (.inr ⟨h.next,_,_,false,?_,hlo,?_,Ay (h.put q .dead) _,?_,h6.app hd⟩) ⟨?_,fun c hc hne=>?_⟩
   · rw[List.length_append];rfl
   · show h.next.nat<(P.succ h.next).nat
     rw[P.Dn];omega
   · rw[List.length_append]
     show(L.length+1)*sz≤0+(L.length+1)*sz
     omega
   · show h.next.nat≤(P.succ h.next).nat
     rw[P.Dn];omega
   · have hcq:c≠q:=fun e'=>by
      subst e'
      rcases hne with hne|hne
      · omega
      · exact hne _ _ _ _ h3
     rw[Dd (show c.nat<(h.put q .dead).next.nat from hc),Cd hcq]
def Abz(a lo:Nat)(h:H)(L:List (List AV))(TT:List (List Tok)):Prop:=L.length=TT.length∧∀i (h1:i<L.length) (h2:i<TT.length),∃v c1 c2 c3,L[i]=[v,c1,c2,c3]∧Wn 43 8 a lo h v (TT[i].map Tok.cells)
theorem Abz.frame{a lo lo':Nat}{h h':H}{L:List (List AV)}{TT:List (List Tok)}(ho:Abz a lo h L TT)(hl:lo≤lo')(hf:∀c,a≤c.nat→c.nat<lo→(∃t m z w,h.at c=.row t m z 43 w)→h'.at c=h.at c):Abz a lo' h' L TT:=by
 refine⟨ho.1,fun i h1 h2=>?_⟩
 obtain⟨v,c1,c2,c3,e,b⟩:=ho.2 i h1 h2
 exact⟨v,c1,c2,c3,e,(b.frame hf).mono hl⟩
theorem Abz.snoc{a lo:Nat}{h:H}{L:List (List AV)}{TT:List (List Tok)}{v c1 c2 c3:AV}{T:List Tok}(ho:Abz a lo h L TT)(hb:Wn 43 8 a lo h v (T.map Tok.cells)):Abz a lo h (L++[[v,c1,c2,c3]]) (TT++[T]):=by
 refine⟨by rw[List.length_append,List.length_append,ho.1];rfl,fun i h1 h2=>?_⟩
 have h0:=ho.1
 rcases Nat.lt_or_ge i L.length with h3|h3
 · rw[List.getElem_append_left h3,List.getElem_append_left (by omega)]
   exact ho.2 i h3 (by omega)
 · have e:i=L.length:=by rw[List.length_append,List.length_singleton] at h1;omega
   subst e
   rw[List.getElem_append_right (Nat.le_refl _),List.getElem_append_right (by omega)]
   simp only[h0,Nat.sub_self,List.getElem_cons_zero]
   exact⟨v,c1,c2,c3,rfl,hb⟩
structure St(h2 h:H)(lo:Nat)(vo vd:AV)(L:List (List AV))(TT:List (List Tok))(T:List Tok)(D:List (List AV)):Prop where
 x:Exh h2 h
 n:h2.next.nat<lo
 nl:lo≤h.next.nat
 now:∃t,h.at h2.next=.row t 4 0 114 true∧Cv 43 8 lo h (Bh t 0) (T.map Tok.cells)
 out:Rx 114 4 (h2.next.nat+1) h vo L
 old:Abz (h2.next.nat+1) lo h L TT
 dg:Cv 48 4 (h2.next.nat+1) h vd D
section
variable{h2 h:H}{lo:Nat}{vo vd:AV}{L:List (List AV)}{TT:List (List Tok)}{T:List Tok}{D:List (List AV)}
theorem St.ext{h':H}(s:St h2 h lo vo vd L TT T D)(x:Exh h h'):St h2 h' lo vo vd L TT T D:=by
 obtain⟨x0,n,nl,⟨t,ht,hb⟩,ho,hd,hg⟩:=s
 exact⟨x0.trans x,n,Nat.le_trans nl x.1,⟨t,by rw[x.2 _ (by omega)];exact ht,hb.ext x⟩,ho.ext x,hd.frame (Nat.le_refl _) fun c _ hc _=>x.2 c (by omega),hg.ext x⟩
theorem St.st{j:Nat}{v:AV}{K:H→Prop}(s:St h2 h lo vo vd L TT T D)(hj:0<j)(hj4:j<4)(hv:v.one=true)(hk:∀h',h'.next=h.next→St h2 h' lo vo vd L TT T D→K h'):st1 (.ptr h2.next (0+j)) v h K:=by
 obtain⟨x0,n,nl,⟨t,ht,hb⟩,ho,hd,hg⟩:=s
 refine Ph ht (Nat.zero_le _) (by omega) hv (hk _ rfl ?_)
 have f:∀c,c≠h2.next→(h.put h2.next (.row (Ai [v] (0+j) t) 4 0 114 true)).at c=h.at c:=fun c hc=>Cd hc
 refine⟨⟨x0.1,fun c hc=>by rw[f c (fun e=>by subst e;omega),x0.2 c hc]⟩,n,nl,⟨_,Bk _ _ _,?_⟩,ho.frame (Nat.le_refl _) fun c _ h1 _ _ _ _ _=>f c (fun e=>by subst e;omega),hd.frame (Nat.le_refl _) fun c h1 _ _=>f c (fun e=>by subst e;omega),hg.frame (Nat.le_refl _) fun c _ h1 _ _ _ _ _=>f c (fun e=>by subst e;omega)⟩
 rw[Ar,if_neg (by omega)]
 exact hb.frame (Nat.le_refl _) fun c _ _ _ _ _ _ ha=>f c (fun e=>by subst e;rw[ht] at ha;cases ha)
theorem St.push{K:KV}(s:St h2 h lo vo vd L TT T D)(hL:L.length≤1000000)(hk:∀v' h' L',Exh h2 h'→h2.next.nat<h'.next.nat→(∃t,h'.at h2.next=.row t 4 0 114 true)→Rx 114 4 (h2.next.nat+1) h' v' L'→Abz (h2.next.nat+1) h'.next.nat h' L' (TT++[T])→Cv 48 4 (h2.next.nat+1) h' vd D→K v' h'):
 Go.Den.ldn 4 (.ptr h2.next 0) h fun v18=>oK (Ao env 110 (fun e ei=>Ak 1 [(0,v18)] h e ei)) fun v19 h20=>oK (Aq env .append [110,110] [vo,v19] h20) K:=by
 obtain⟨x0,n,nl,⟨t,ht,hb⟩,ho,hd,hg⟩:=s
 refine Acn (c:=4) ht (by decide) ?_
 rw[show Cq t 4 0=[Bh t 0,Bh t 1,Bh t 2,Bh t 3] from rfl,Bgi,Ae,Bgy]
 refine Bgr (lo:=h2.next.nat+1) (ho.ext .new) rfl Biw (A5s (by omega)) (by rw[Be];omega) rfl rfl fun v' h' b' k'=>?_
 have xn:Exh h (h.new (.row (Ai [Bh t 0,Bh t 1,Bh t 2,Bh t 3] 0 Z60) 4 0 114 true)):=.new
 have k1:=k'.1
 have n1:=xn.1
 have f:∀c,c.nat<h.next.nat→(c.nat<h2.next.nat+1∨∀t m z w,h.at c≠.row t m z 114 w)→h'.at c=h.at c:=fun c hc hh=>by
  rw[k'.2 c (Nat.lt_of_lt_of_le hc n1) (hh.imp id fun hh t m z w=>by rw[xn.2 c hc];exact hh t m z w),xn.2 c hc]
 have f43:∀c,c.nat<h.next.nat→(∃t m z w,h.at c=.row t m z 43 w)→h'.at c=h.at c:=fun c hc ⟨t,m,z,w,e⟩=>f c hc (.inr fun t' m' z' w' e'=>by rw[e] at e';cases e')
 refine hk v' h' _ ⟨by have:=x0.1;omega,fun c hc=>by rw[f c (Nat.lt_of_lt_of_le hc x0.1) (.inl (by omega)),x0.2 c hc]⟩ (by omega) ⟨t,by rw[f _ (by omega) (.inl (by omega))];exact ht⟩ b' ?_ ((hg.ext xn).kps k' (by decide))
 refine Abz.snoc (hd.frame (by omega) fun c _ hc hr=>f43 c (by omega) hr) ?_
 exact((hb.b (a:=h2.next.nat+1) (by omega)).frame fun c _ hc hr=>f43 c hc hr).mono (by omega)
theorem St.tell{K:KV}{a b c d:AV}(s:St h2 h lo vo vd L TT T D)(hD:D.length≤1000000)(hk:∀v' h',St h2 h' lo vo v' L TT T (D++[[a,b,c,d]])→K v' h'):
 oK (Ao env 26 (fun e ei=>Ak 1 [(0,.agg [a,b,c,d])] h e ei)) fun v19 h20=>oK (Aq env .append [26,26] [vd,v19] h20) K:=by
 have s':=s
 obtain⟨x0,n,nl,⟨t,ht,hb⟩,ho,hd,hg⟩:=s
 rw[A12,Ae,A2b]
 refine Ao8 (lo:=h2.next.nat+1) (hg.ext .new) rfl Bbv (Aup (by omega)) (by rw[Be];omega) rfl rfl fun v' h' b' k'=>?_
 have xn:Exh h (h.new (.row (Ai [a,b,c,d] 0 Z48) 4 0 48 true)):=.new
 have k1:=k'.1
 have n1:=xn.1
 refine hk v' h' ⟨⟨by have:=x0.1;omega,fun c hc=>by rw[k'.2 c (by have:=x0.1;omega) (.inl (by omega)),(x0.trans xn).2 c hc]⟩,n,by omega,⟨t,?_,(hb.ext xn).kps k' (by decide)⟩,(ho.ext xn).kp k'.kp (by decide),hd.frame (Nat.le_refl _) fun c _ hc ⟨t,m,z,w,e⟩=>?_,b'⟩
 · rw[k'.2 _ (by omega) (.inl (by omega)),xn.2 _ (by omega)];exact ht
 · rw[k'.2 c (by omega) (.inr fun t' m' z' w' e'=>by rw[xn.2 c (by omega),e] at e';cases e'),xn.2 c (by omega)]
theorem Auy(kk:Int)(l c:Nat)(a b:Int)(h:H):Bp env (env.ty 48) [(0,(.int .i64 kk)),(1,.agg [.str l c,.int .i64 a,.int .i64 b])] h=some (.agg [.int .i64 kk,.str l c,.int .i64 a,.int .i64 b],h):=by kernel_rfl
theorem Azb{vr:AV}{B:List UInt8}{i e kd l1 c1 n:Nat}{b bad:Bool}{k:KV}(hB:Rs h2 vr B)(hl:B.length≤1000000)(hT:T.length≤1000000)(hD:D.length≤1000000)(hs:St h2 h lo vo vd L TT T D)(hi:i<e)(he:e≤B.length)
 (hk:∀f t h' vd' D',D'.length≤D.length+1→St h2 h' lo vo vd' L TT (T++[⟨kd,(B.drop i).take (e-i),b,f,t⟩]) D'→(r46 W1 k n).a1 1 102 l1 c1 vr vo vd' (.ptr h2.next 0) false (Int.ofNat e) h'):
 (r46 W1 k (n+2)).a5 1 102 l1 c1 vr vo vd (.ptr h2.next 0) b (Int.ofNat i) (Int.ofNat kd) (Int.ofNat e) bad h:=by
 have hs0:=hs
 obtain⟨x0,hn,hnl,⟨t,ht,hb⟩,ho,hd,hg⟩:=hs0
 have hr:=hB.ext x0
 obtain⟨L1,r,hL⟩:=hr
 have i1:i<L1.length:=by rw[hL.1];omega
 have i2:e-1<L1.length:=by rw[hL.1];omega
 obtain⟨f1,t1,_,_,hc1⟩:=hL.2 i (by omega) i1
 obtain⟨f2,t2,_,_,hc2⟩:=hL.2 (e-1) (by omega) i2
 refine Bdt ?_
 unfold Anf
 rw[Ap]
 refine r.elem i1 fun q1 o1 hq1 _ a1=>?_
 rw[hc1] at a1
 rw[Av]
 refine a1.ld1 (j:=1) (by show 1<3;decide) ?_
 simp only[rn,List.getElem_cons_succ,List.getElem_cons_zero]
 rw[Au,Wy (by omega),Cg (by omega),As,Ap]
 refine r.elem i2 fun q2 o2 hq2 _ a2=>?_
 rw[hc2] at a2
 rw[Av]
 refine a2.ld1 (j:=2) (by show 2<3;decide) ?_
 simp only[rn,List.getElem_cons_succ,List.getElem_cons_zero]
 rw[Au,A1n,Ae]
 refine Ek ?_
 have a1':=a1.frame (h':=h.new Ata) (Dd hq1)
 have a2':=a2.frame (h':=h.new Ata) (Dd hq2)
 refine a1'.ld1 (j:=1) (by show 1<3;decide) ?_
 simp only[rn,List.getElem_cons_succ,List.getElem_cons_zero]
 rw[Au]
 refine Ai8 avI ?_
 refine a2'.ld1 (j:=2) (by show 2<3;decide) ?_
 simp only[rn,List.getElem_cons_succ,List.getElem_cons_zero]
 rw[Au]
 refine Ai8 avI ?_
 have hs44:(h.new Ata).at h.next=.row (Ai [(.str 0 0),(.int .i64 (Int.ofNat 0)),(.int .i64 (Int.ofNat 0))] 0 .e) 3 0 38 true:=by rw[Ay];rfl
 refine Tp (c:=3) hs44 (Nat.le_refl _) rfl (by decide) (by decide) ?_
 generalize hR:(Ob.row (Ai [.str 1 102,.int .i64 (Int.ofNat f1),.int .i64 (Int.ofNat t2)] 0 (Ai [(.str 0 0),(.int .i64 (Int.ofNat 0)),(.int .i64 (Int.ofNat 0))] 0 .e)) 3 0 38 true:Ob FT)=R
 generalize hh3:(h.new Ata).put h.next R=h3
 have x3:Exh h h3:=by
  subst hh3
  refine⟨by rw[Dl,Be];omega,fun c hc=>?_⟩
  rw[Cd (fun e=>by subst e;exact absurd hc (Nat.lt_irrefl _)),Dd hc]
 have n3:h3.next.nat=h.next.nat+1:=by subst hh3;rw[Dl,Be]
 have sp:∀h',h'.at h.next=R→AtP h' h.next 0 [.str 1 102,.int .i64 (Int.ofNat f1),.int .i64 (Int.ofNat t2)]:=fun h' e'=>by
  subst hR
  refine .row _ 3 0 38 true e' (by show 0+3≤3;decide) fun j hj=>?_
  rw[Ar,if_pos (by constructor;omega;simpa using hj),List.getD_eq_getElem?_getD,show 0+j-0=j by omega,List.getElem?_eq_getElem hj];rfl
 have p3:h3.at h.next=R:=by subst hh3;exact Bk _ _ _
 have ht3:h3.at h2.next=.row t 4 0 114 true:=by rw[x3.2 _ (by omega)];exact ht
 rw[Hl]
 refine Cz ht3 (by decide) ?_
 refine Rs.cut ((hB.ext x0).ext x3) (Nat.le_of_lt hi) he fun v4 r4=>?_
 refine(sp _ p3).ldn rfl ?_
 refine c81 (by rw[List.length_take,List.length_drop];omega) r4 fun h5 x5=>?_
 rw[Cl]
 have x35:=x3.trans x5
 have s5:=hs.ext x35
 have ht5:h5.at h2.next=.row t 4 0 114 true:=by rw[x5.2 _ (by omega)];exact ht3
 have b5:=hb.ext x35
 refine Cz ht5 (by decide) ?_
 refine Ai8 (A15 b5) ?_
 have p5:h5.at h.next=R:=by rw[x5.2 _ (by omega)];exact p3
 refine(sp _ p5).ldn rfl ?_
 refine Ai8 (Bmg avS avI avI) ?_
 rw[Bea,Ae,Bgj,Ae]
 have x6:Exh h5 (h5.new (.row (Ai [.int .i64 (Int.ofNat kd),.str ((B.drop i).take (e-i)).length (enc ((B.drop i).take (e-i))),.bool b,.str 1 102,.int .i64 (Int.ofNat f1),.int .i64 (Int.ofNat t2),.bool false,.Ad] 0 Z47) 8 0 43 true)):=Exh.new
 have n5:h.next.nat<h5.next.nat:=by have:=x5.1;omega
 refine Cz (show _=Ob.row t 4 0 114 true by rw[x6.2 _ (by omega)];exact ht5) (by decide) ?_
 refine Ai8 (A15 b5) ?_
 rw[Bgz]
 refine Ags b5 rfl Bix (A5t (by rw[List.length_map];omega)) (by omega) fun v7 h7 b7 k7=>?_
 have ht7:h7.at h2.next=.row t 4 0 114 true:=by rw[k7.2 _ (by omega) (.inr ⟨_,_,_,_,_,ht5,by decide⟩)];exact ht5
 have p7:h7.at h.next=R:=by rw[k7.2 _ (by omega) (.inr (by subst hR;exact⟨_,_,_,_,_,p5,by decide⟩))];exact p5
 have n7:=k7.1
 rw[Hl]
 refine Ph ht7 (Nat.zero_le _) (by decide) b7.one ?_
 have f8:∀c,c≠h2.next→(h7.put h2.next (.row (Ai [v7] 0 t) 4 0 114 true)).at c=h7.at c:=fun c hc=>Cd hc
 have s8:St h2 (h7.put h2.next (.row (Ai [v7] 0 t) 4 0 114 true)) lo vo vd L TT (T++[⟨kd,(B.drop i).take (e-i),b,f1,t2⟩]) D:=by
  have x7:Exh h2 h7:=⟨by have:=x0.1;omega,fun c hc=>by
   have:=x0.1
   rw[k7.2 c (by omega) (.inl (by omega)),(x0.trans x35).2 c hc]⟩
  refine⟨⟨x7.1,fun c hc=>by rw[f8 c (fun e=>by subst e;omega)];exact x7.2 c hc⟩,hn,by rw[Dl];omega,⟨_,Bk _ _ _,?_⟩,(s5.out.kp k7 (by decide)).frame (Nat.le_refl _) fun c _ h1 _ _ _ _ _=>f8 c (fun e=>by subst e;omega),s5.old.frame (Nat.le_refl _) fun c h1 hc _=>?_,(s5.dg.kp k7 (by decide)).frame (Nat.le_refl _) fun c _ h1 _ _ _ _ _=>f8 c (fun e=>by subst e;omega)⟩
  · rw[Ar,if_pos (by constructor<;>simp),List.map_append]
    show Cv 43 8 lo _ v7 (T.map Tok.cells++[Tok.cells ⟨kd,(B.drop i).take (e-i),b,f1,t2⟩])
    refine Cv.frame b7 (Nat.le_refl _) fun c hc _ tt m z w ha=>f8 c fun e'=>?_
    subst e'
    rw[ht7] at ha;cases ha
  · rw[f8 c (fun e=>by subst e;omega),k7.2 c (by omega) (.inl hc)]
 have p8:(h7.put h2.next (.row (Ai [v7] 0 t) 4 0 114 true)).at h.next=R:=by rw[f8 _ (fun e=>by rw[e] at hnl;omega)];exact p7
 generalize h7.put h2.next (.row (Ai [v7] 0 t) 4 0 114 true)=h8 at*
 cases bad with
 |false=>
  refine Bo rfl ?_
  refine A1i ?_
  unfold Ahl
  exact hk f1 t2 _ vd D (Nat.le_succ _) s8
 |true=>
  refine Cj rfl ?_
  refine(sp _ p8).ldn rfl ?_
  rw[Auy,Ae]
  refine s8.tell hD fun v9 h9 s9=>?_
  refine A1i ?_
  unfold Ahl
  exact hk f1 t2 _ v9 _ (by rw[List.length_append,List.length_singleton];exact Nat.le_refl _) s9
end
theorem Az6{s:List UInt8}{n:Nat}{b:Bool}(h:Xn s=some (n,b)):n≤s.length:=by
 unfold Xn at h
 split at h
 · cases h
 · split at h
   · cases h
     exact(List.takeWhile_prefix _).length_le
   · split at h
     · cases h
     · rename_i h1 _ h2
       have h42:Go.Lx.at0 s 1=42:=Decidable.not_not.1 h2
       have:=Go.Lx.Ajs (s:=s) (i:=1) (by rw[h42];decide)
       cases hb:Go.Lx.Mp (s.drop 2) with
       |none=>rw[hb] at h;cases h;exact Nat.le_refl _
       |some m=>
        rw[hb] at h
        have:=(Go.Lx.Ao2 hb).2
        rw[List.length_drop] at this
        cases h;omega
theorem Avk{s:List UInt8}{n:Nat}(h:Xn s=some (n,true)):2≤s.length:=by
 unfold Xn at h
 split at h
 · cases h
 · split at h
   · cases h
   · split at h
     · cases h
     · rename_i h1 _ h2
       have h42:Go.Lx.at0 s 1=42:=Decidable.not_not.1 h2
       exact Go.Lx.Ajs (s:=s) (i:=1) (by rw[h42];decide)
theorem Acs{α:Type}{TT:List (List α)}{T:List α}:(TT++[T]).flatten.length=TT.flatten.length+T.length:=by
 rw[List.flatten_append,List.length_append,List.flatten_cons,List.flatten_nil,List.append_nil]
def OkK(m:Nat)(x:Tok):Prop:=x.text≠[]∧x.text.length≤m∧1≤x.kind∧x.kind≤6
theorem Aks(s:List UInt8):1≤(Go.Lx.On s).1∧(Go.Lx.On s).1≤6:=by
 have h2:1≤(Go.Lx.Oo s).1∧(Go.Lx.Oo s).1≤6:=by
  unfold Go.Lx.Oo
  repeat' split
  all_goals (constructor<;>simp)
 unfold Go.Lx.On
 repeat' split
 all_goals first|exact h2|(constructor<;>simp)
def A0x(a lo:Nat)(h:H)(v:AV)(TT:List (List Tok)):Prop:=(v=.Ad∧TT=[])∨∃q t m z w,v=.slice q 0 TT.length 4 false∧q.nat<h.next.nat∧h.at q=.row t m z 114 w∧TT.length*4≤m∧z≤TT.length*4∧∀i (hi:i<TT.length),Wn 43 8 a lo h (Bh t (0+i*4+0)) (TT[i].map Tok.cells)
theorem Akx{a lo lo':Nat}{h:H}{v:AV}{L:List (List AV)}{TT:List (List Tok)}(hb:Rx 114 4 lo' h v L)(ho:Abz a lo h L TT):A0x a lo h v TT:=by
 have e0:=ho.1
 rcases hb.n with⟨rfl,rfl⟩|⟨q,t,m,z,w,rfl,h1,h2,h3,h4,h5,h6⟩
 · refine .inl ⟨rfl,?_⟩
   exact List.eq_nil_of_length_eq_zero e0.symm
 · rw[e0] at h4 h5 ⊢
   refine .inr ⟨q,t,m,z,w,rfl,h2,h3,h4,h5,fun i hi=>?_⟩
   obtain⟨v,c1,c2,c3,e,b⟩:=ho.2 i (by omega) hi
   have:=(h6 i (by omega)).2 0 (by rw[e];exact Nat.zero_lt_succ _)
   rw[this]
   simp only[e,List.getElem_cons_zero]
   exact b
section
variable{h2:H}{vr:AV}{B:List UInt8}{l1 c1:Nat}{k:KV}(hB:Rs h2 vr B)(hl:B.length≤1000000)
 (hk:∀h' v vd lo TT,Exh h2 h'→lo≤h'.next.nat→A0x (h2.next.nat+1) lo h' v TT→(∀x∈TT.flatten,OkK B.length x)→TT.flatten.length≤B.length→TT.length≤B.length+1→k (.tuple [v,vd]) h')
include hB hl hk
theorem A0f{n lo:Nat}{vo vd:AV}{L:List (List AV)}{TT:List (List Tok)}{T:List Tok}{D:List (List AV)}{h:H}{b:Bool}(hs:St h2 h lo vo vd L TT T D)(hok:∀x∈TT.flatten,OkK B.length x)(hf:TT.flatten.length≤B.length)(ht:TT.length≤B.length+1){i:Nat}(hi:B.length≤i):
 (r46 W1 k (n+2)).a1 1 102 l1 c1 vr vo vd (.ptr h2.next 0) b (Int.ofNat i) h:=by
 refine Atw ?_
 unfold Ab7
 rw[(hB.ext hs.x).len,ilt,decide_eq_false (by omega)]
 refine Bo rfl ?_
 have hn:=hs.n
 have hnl:=hs.nl
 have hL:=hs.old.1
 rcases hs.out with⟨rfl,e⟩|⟨q,t,m,w,rfl,g1,g2,g3,g4,g6⟩
 · have e2:TT=[]:=List.eq_nil_of_length_eq_zero (by rw[←hL,e];rfl)
   rw[Qz,ilt]
   refine Bo rfl ?_
   refine Aof ?_
   unfold Yw
   exact hk h .Ad vd lo TT hs.x hnl (.inl ⟨rfl,e2⟩) hok hf ht
 · rw[Li,ilt]
   refine Az (fun e=>?_) (fun e=>?_)
   · have e:0<L.length:=of_decide_eq_true e
     rw[Li,Wy (by omega),Cg (by omega),As,Ap]
     refine Uy (show L.length-1<L.length by omega) ?_
     rw[Av]
     have lns:=Akx hs.out hs.old
     refine Ph g3 (Nat.zero_le _) (by omega) rfl ?_
     refine Aof ?_
     unfold Yw
     have f:∀c,c≠q→(h.put q (.row (Ai [.int .i64 (Int.ofNat l1)] (0+(L.length-1)*4+2) t) m 0 114 w)).at c=h.at c:=fun c hc=>Cd hc
     refine hk _ _ vd lo TT ⟨hs.x.1,fun c hc=>by rw[f c (fun e=>by subst e;omega)];exact hs.x.2 c hc⟩ hnl (.inr ⟨q,_,m,0,w,by rw[hL],g2,Bk _ _ _,by omega,by omega,fun i hi=>?_⟩) hok hf ht
     rw[Ar,if_neg (by simp only[List.length_cons,List.length_nil];omega)]
     obtain⟨v,c1',c2',c3',e',b'⟩:=hs.old.2 i (by omega) hi
     have:=(g6 i (by omega)).2 0 (by rw[e'];exact Nat.zero_lt_succ _)
     rw[this]
     simp only[e',List.getElem_cons_zero]
     exact b'.frame fun c _ _ ⟨t',m',z',w',ha⟩=>f c fun e=>by subst e;rw[g3] at ha;cases ha
   · refine Aof ?_
     unfold Yw
     exact hk h _ vd lo TT hs.x hnl (Akx hs.out hs.old) hok hf ht
theorem A0h(n:Nat):∀(i lo:Nat)(b:Bool)(vo vd:AV)(L:List (List AV))(TT:List (List Tok))(T:List Tok)(D:List (List AV))(h:H),3*(B.length-i)+4≤n→i≤B.length→TT.flatten.length+T.length≤i→TT.length≤i→D.length≤i→(∀x∈TT.flatten++T,OkK B.length x)→St h2 h lo vo vd L TT T D→
 (r46 W1 k n).a1 1 102 l1 c1 vr vo vd (.ptr h2.next 0) b (Int.ofNat i) h:=by
 induction n using Nat.strongRecOn with
 |_ n ih=>
  intro i lo b vo vd L TT T D h hn hi hTn hTT hDn hok hs
  obtain⟨n,rfl⟩:∃m,n=m+3:=⟨n-3,by omega⟩
  rcases Nat.lt_or_ge i B.length with hi'|hi'
  case inr=>exact A0f hB hl hk (n:=n+1) hs (fun x hx=>hok x (List.mem_append_left _ hx)) (by omega) (by omega) hi'
  have hr:=hB.ext hs.x
  refine Atw ?_
  unfold Ab7
  rw[hr.len,ilt,decide_eq_true hi']
  refine Cj rfl ?_
  rw[Ap]
  refine hr.at0 hi' ?_
  unfold ub
  rw[Au,Abp _ 10 10 rfl]
  obtain⟨L1,r,hL1⟩:=hr
  have i1:i<L1.length:=by rw[hL1.1];omega
  obtain⟨f1,t1,_,_,hc1⟩:=hL1.2 i hi' i1
  by_cases h10:B[i]=10
  · rw[decide_eq_true h10]
    refine Cj rfl ?_
    rw[Ap]
    refine r.fld (j:=2) i1 (by rw[hc1];show 2<3;decide) ?_
    simp only[hc1,rn,List.getElem_cons_succ,List.getElem_cons_zero]
    rw[Au,Av]
    refine hs.st (by decide) (by decide) rfl fun h1 n1 s1=>?_
    refine s1.push (by have:=s1.old.1;omega) fun v3 h3 L3 x3 n3 ⟨t3,a3⟩ b3 o3 d3=>?_
    rw[Ap]
    obtain⟨L4,r4,hL4⟩:=hB.ext x3
    have i4:i<L4.length:=by rw[hL4.1];omega
    obtain⟨f4,t4,_,_,hc4⟩:=hL4.2 i hi' i4
    refine r4.fld (j:=2) i4 (by rw[hc4];show 2<3;decide) ?_
    simp only[hc4,rn,List.getElem_cons_succ,List.getElem_cons_zero]
    rw[Au,Bd8,Ae]
    refine Tp (c:=4) a3 (Nat.zero_le _) rfl (by decide) (by decide) ?_
    rw[De,Cg (by omega),As]
    have f:∀c,c≠h2.next→(h3.put h2.next (.row (Ai [.Ad,.int .i64 (Int.ofNat t4),.int .i64 (.ofNat 0),.bool false] 0 t3) 4 0 114 true)).at c=h3.at c:=fun c hc=>Cd hc
    refine ih (n+2) (by omega) (i+1) h3.next.nat false v3 vd L3 (TT++[T]) [] D _ (by omega) hi' ?_ ?_ (by omega) (fun x hx=>?_) ⟨⟨x3.1,fun c hc=>by rw[f c (fun e=>by subst e;omega)];exact x3.2 c hc⟩,n3,Nat.le_refl _,⟨_,Bk _ _ _,.inl ⟨?_,rfl⟩⟩,b3.frame (Nat.le_refl _) fun c _ g1 _ _ _ _ _=>f c (fun e=>by subst e;omega),o3.frame (Nat.le_refl _) fun c g1 _ _=>f c (fun e=>by subst e;omega),d3.frame (Nat.le_refl _) fun c _ g1 _ _ _ _ _=>f c (fun e=>by subst e;omega)⟩
    · rw[Acs];simp only[List.length_nil];omega
    · rw[List.length_append,List.length_singleton];omega
    · rw[List.append_nil,List.flatten_append] at hx
      exact hok x (by simpa using hx)
    · rw[Ar];rfl
  · rw[decide_eq_false h10]
    refine Bo rfl ?_
    rw[Ap]
    refine(hB.ext hs.x).at0 hi' ?_
    unfold ub
    rw[Au]
    refine Dz (c78 _) ?_
    rw[Ce]
    refine Az (fun _=>?_) (fun _=>?_)
    · rw[De,Cg (by omega),As]
      exact ih (n+2) (by omega) (i+1) lo true vo vd L TT T D h (by omega) hi' (by omega) (by omega) (by omega) hok hs
    refine Bf5 (hB.ext hs.x) hl hi' ?_
    unfold Az5
    cases hc:Xn (B.drop i) with
    |some p=>
     obtain⟨m,o⟩:=p
     have hm:=Avl hc
     show ext 0 (.tuple [.int .i64 (Int.ofNat (i+m)),.bool o]) _
     rw[Ep,Au,Ez,Ce,ilt,decide_eq_true (show i<i+m by omega)]
     refine Cj rfl ?_
     have hmle:i+m≤B.length:=by
      have:=Az6 hc
      rw[List.length_drop] at this;omega
     cases o with
     |false=>
      refine Bo rfl ?_
      exact ih (n+2) (by omega) (i+m) lo true vo vd L TT T D h (by omega) hmle (by omega) (by omega) (by omega) hok hs
     |true=>
      have hi2:i+1<B.length:=by
       have:=Avk hc
       rw[List.length_drop] at this;omega
      refine Cj rfl ?_
      rw[Ap]
      refine r.fld (j:=1) i1 (by rw[hc1];show 1<3;decide) ?_
      simp only[hc1,rn,List.getElem_cons_succ,List.getElem_cons_zero]
      have i2:i+1<L1.length:=by rw[hL1.1];omega
      obtain⟨f2,t2,_,_,hc2⟩:=hL1.2 (i+1) hi2 i2
      rw[Au,De,Cg (by omega),As,Ap]
      refine r.fld (j:=2) i2 (by rw[hc2];show 2<3;decide) ?_
      simp only[hc2,rn,List.getElem_cons_succ,List.getElem_cons_zero]
      rw[Au,A1n,Ae,Auy,Ae]
      refine hs.tell (by omega) fun v3 h3 s3=>?_
      refine Bdu ?_
      unfold Ang
      rw[Av]
      refine s3.st (by decide) (by decide) rfl fun h4 n4 s4=>?_
      rw[Av]
      refine s4.st (by decide) (by decide) rfl fun h5 n5 s5=>?_
      refine s5.push (by have:=s5.old.1;omega) fun v6 h6 L6 x6 n6 _ b6 o6 d6=>?_
      refine hk h6 v6 v3 h6.next.nat (TT++[T]) x6 (Nat.le_refl _) (Akx b6 o6) (fun x hx=>hok x (by simpa using hx)) ?_ ?_
      · rw[Acs];omega
      · rw[List.length_append,List.length_singleton];omega
    |none=>
     show ext 0 (.tuple [.int .i64 (Int.ofNat i),.bool false]) _
     rw[Ep,Au,Ez,Ce,ilt,decide_eq_false (Nat.lt_irrefl _)]
     refine Bo rfl ?_
     have hle:=Go.Lx.Atg (s:=B.drop i) (fun e=>by have:=congrArg List.length e;rw[List.length_drop] at this;simp at this;omega)
     rw[List.length_drop] at hle
     have hkd:=Aks (B.drop i)
     refine Bf4 (hB.ext hs.x) hl hi' fun h3 x3=>?_
     unfold nxV
     rw[Ep,Au,Ez,Au,A1m,Ce]
     refine Azb hB hl (by omega) (by omega) (hs.ext x3) (show i<i+(Go.Lx.On (B.drop i)).2.1 by omega) (by omega) fun f t h' vd' D' hD' s'=>?_
     refine ih (n+1-1) (by omega) _ lo false vo vd' L TT _ D' h' (by omega) (by omega) ?_ (by omega) (by omega) (fun x hx=>?_) s'
     · rw[List.length_append,List.length_singleton];omega
     · rw[←List.append_assoc] at hx
       rcases List.mem_append.1 hx with hx|hx
       · exact hok x hx
       · rw[List.mem_singleton] at hx
         subst hx
         refine⟨fun e=>?_,?_,hkd.1,hkd.2⟩
         · have:=congrArg List.length e
           rw[List.length_take,List.length_drop] at this
           simp only[List.length_nil] at this
           omega
         · show((B.drop i).take _).length≤_
           rw[List.length_take,List.length_drop];omega
end
theorem A0g{h:H}{s:List UInt8}{k:KV}(hl:s.length≤100000)
 (hk:∀h' a lo v vd TT,Exh h h'→h.next.nat≤a→lo≤h'.next.nat→A0x a lo h' v TT→(∀x∈TT.flatten,OkK (s.length+1) x)→TT.flatten.length≤s.length+1→TT.length≤s.length+2→k (.tuple [v,vd]) h'):W1 (.func 46) [.str 1 102,S s] h k:=by
 have cb:=Avn s
 have hBl:(bts (Jz s)).length=(Jz s).length:=by unfold bts;rw[List.length_map]
 refine w46 (n:=3*(s.length+1)+10) Bl (g46 ?_)
 unfold Anh
 refine Bf6 (by omega) fun h2 vr x2 b2=>?_
 refine Ek ?_
 have xn:Exh h2 (h2.new Ah3):=.new
 have a0:(h2.new Ah3).at h2.next=Ah3:=Ay _ _
 have s0:St h2 (h2.new Ah3) (h2.next.nat+1) .Ad .Ad [] [] [] []:=by
  refine⟨xn,Nat.lt_succ_self _,by rw[Be];omega,⟨_,a0,.inl ⟨?_,rfl⟩⟩,.inl ⟨rfl,rfl⟩,⟨rfl,fun i h1 _=>absurd h1 (Nat.not_lt_zero _)⟩,.inl ⟨rfl,rfl⟩⟩
  rw[Ar];rfl
 by_cases h0:Jz s=[]
 · rw[h0] at b2
   refine Atw ?_
   unfold Ab7
   rw[b2.len,ilt]
   refine Bo rfl ?_
   rw[Qz,ilt]
   refine Bo rfl ?_
   refine Aof ?_
   unfold Yw
   exact hk _ h.next.nat 0 .Ad .Ad [] (x2.trans xn) (Nat.le_refl _) (Nat.zero_le _) (.inl ⟨rfl,rfl⟩) (fun x hx=>absurd hx (by simp)) (Nat.zero_le _) (Nat.zero_le _)
 have rs:Rs h2 vr (bts (Jz s)):=⟨_,b2.rd (fun e=>h0 (List.eq_nil_of_length_eq_zero (by rw[←Gq,e];rfl))),Ayl fun x hx=>by have:=cb.2 x hx;omega⟩
 refine A0h rs (by omega) (fun h' v vd lo TT x hlo hT hO hF hN=>?_) _ 0 _ false .Ad .Ad [] [] [] [] _ (by omega) (Nat.zero_le _) (Nat.le_refl _) (Nat.le_refl _) (Nat.le_refl _) (fun x hx=>absurd hx (by simp)) s0
 refine hk h' _ lo v vd TT (x2.trans x) (show h.next.nat≤h2.next.nat+1 by have:=x2.1;omega) hlo hT (fun x hx=>?_) (by omega) (by omega)
 obtain⟨o1,o2,o3,o4⟩:=hO x hx
 exact⟨o1,by omega,o3,o4⟩
end Go.Den
namespace Go.Den
open Go.RowKit
set_option maxRecDepth 100000
theorem Wn.sl{e:TypeId}{sz a lo:Nat}{h:H}{v:AV}{L:List (List AV)}(hb:Wn e sz a lo h v L):(v=.Ad∧L=[])∨∃q t m z w,v=.slice q 0 L.length sz false∧h.at q=.row t m z e w∧L.length*sz≤m∧Mv sz 0 t L:=by
 rcases hb with⟨rfl,rfl⟩|⟨q,t,m,z,w,rfl,h1,h2,h3,h4,_,h5,h6⟩
 · exact .inl ⟨rfl,rfl⟩
 · exact .inr ⟨q,t,m,z,w,rfl,h3,h4,h6⟩
theorem Alq{e:TypeId}{sz a lo:Nat}{h:H}{v:AV}{L:List (List AV)}(hb:Wn e sz a lo h v L):Bv h sz v=some (L.length,L.flatten):=by
 rcases hb.sl with⟨rfl,rfl⟩|⟨q,t,m,z,w,rfl,h3,h4,h6⟩
 · rfl
 · show(Bool.rec (motive:=fun _=>Option (Nat×List AV)) none (Option.rec (motive:=fun _=>Option (Nat×List AV)) none (fun cs=>some (L.length,cs)) (h.read q 0 (Nat.mul L.length sz))) (Nat.beq sz sz))=_
   rw[Nat.beq_refl,Zh h3 (show Nat.mul L.length sz≤m from h4)]
   show some (L.length,Cq t (L.length*sz) 0)=_
   rw[Aqk h6]
theorem Ap8{α:Type}{TT:List (List α)}{i:Nat}(hi:i<TT.length):(TT.take (i+1)).flatten=(TT.take i).flatten++TT[i]:=by
 rw[List.take_succ_eq_append_getElem hi,List.flatten_append,List.flatten_cons,List.flatten_nil,List.append_nil]
theorem Af4{α:Type}(TT:List (List α))(i:Nat):(TT.take i).flatten.length≤TT.flatten.length:=by
 have:TT.flatten=(TT.take i).flatten++(TT.drop i).flatten:=by rw[←List.flatten_append,List.take_append_drop]
 rw[this,List.length_append];omega
section
variable{h1:H}{a lo:Nat}{v3:AV}{TT:List (List Tok)}{k:KV}(hT:A0x a lo h1 v3 TT)(hlo:lo≤h1.next.nat)(hF:TT.flatten.length≤200000)
 (hk:∀h' v,Exh h1 h'→RdT h' v (TT.flatten.map Vq)→k v h')
include hT hlo hF hk
theorem A8p(n:Nat):∀(i:Nat)(v5:AV)(h:H),TT.length-i+1≤n→i≤TT.length→TT.length≤1000000→Exh h1 h→Cv 43 8 h1.next.nat h v5 ((TT.take i).flatten.map Tok.cells)→(r22 W1 k n).a1 v3 v5 (Int.ofNat i) h:=by
 induction n with
 |zero=>intro i v5 h hn;omega
 |succ n ih=>
  intro i v5 h hn hi hTl x hb
  refine Bdz ?_
  unfold Anp
  have hlen:∀K:Nat→Prop,Ef v3 K=K TT.length:=fun K=>by
   rcases hT with⟨rfl,rfl⟩|⟨q,t,m,z,w,rfl,_⟩<;>rfl
  rw[hlen,ilt]
  refine Az (fun e=>?_) (fun e=>?_)
  · have e:i<TT.length:=of_decide_eq_true e
    rcases hT with⟨rfl,rfl⟩|⟨q,t,m,z,w,rfl,g1,g2,g3,_,g4⟩
    · exact absurd e (Nat.not_lt_zero _)
    rw[Ap]
    refine Uy e ?_
    rw[Av]
    refine Cz (show h.at q=_ by rw[x.2 q g1];exact g2) (by omega) ?_
    have bb:=(g4 i e).frame (h':=h) fun c _ hc _=>x.2 c (by omega)
    rw[Bg0]
    have fl:=Ap8 e
    have hle:=Af4 TT (i+1)
    rw[fl,List.length_append] at hle
    refine Ama (lo:=h1.next.nat) hb (Alq bb) (fun c hc=>by obtain⟨y,_,rfl⟩:=List.mem_map.1 hc;rfl) Biy (A5u (by rw[List.length_map,List.length_map];omega)) x.1 fun v' h2 b2 x2=>?_
    rw[De,Cg (by omega),As]
    refine ih (i+1) v' h2 (by omega) e hTl ⟨Nat.le_trans x.1 x2.1,fun c hc=>by rw[x2.2 c (Nat.lt_of_lt_of_le hc x.1) (.inl hc),x.2 c hc]⟩ ?_
    rw[fl,List.map_append];exact b2
  · have e:i=TT.length:=by have:=of_decide_eq_false e;omega
    rw[e,List.take_length] at hb
    refine hk h v5 x ?_
    rcases hb.rd' with⟨e1,e2⟩|hr
    · exact .inl ⟨e1,by cases hF:TT.flatten with|nil=>rfl|cons y l=>rw[hF] at e2;cases e2⟩
    · exact .inr (by rw[Aj7];exact hr)
end
theorem A0j{h:H}{s:List UInt8}{k:KV}(hl:s.length≤100000)
 (hk:∀h' v (T:List Tok),(∀x∈T,OkK (s.length+1) x)→T.length≤s.length+1→Exh h h'→RdT h' v (T.map Vq)→k v h'):W1 (.func 22) [S s] h k:=by
 refine w22 (n:=s.length+4+1) Bl (g22 ?_)
 unfold Anq
 refine A0g hl fun h1 a lo v vd TT x1 _ hlo hT hO hF hN=>?_
 rw[Ep,Ez]
 exact A8p hT hlo (by omega) (fun h' v x r=>hk h' v _ hO hF (x1.trans x) r) _ 0 .Ad h1 (by omega) (Nat.zero_le _) (by omega) .refl (.inl ⟨rfl,rfl⟩)
end Go.Den
namespace Go.Den
open Go.RowKit
set_option maxRecDepth 100000
theorem Ax6(l c:Nat):Bm l c l c=true:=by
 show Ah (Nat.beq l l) (Nat.beq c c)=true
 rw[Nat.beq_refl,Nat.beq_refl];rfl
theorem Ak7(a:Int):Ba a a=true:=by rw[Fi,beq_self_eq_true]
theorem Bjc(l c:Nat)(a b:Int):Kz env .neq 38 (.agg [.str l c,.int .i64 a,.int .i64 b]) (.agg [.str l c,.int .i64 a,.int .i64 b])=some (.bool false):=by
 have e:Kz env .neq 38 (.agg [.str l c,.int .i64 a,.int .i64 b]) (.agg [.str l c,.int .i64 a,.int .i64 b])=An7 (Bool.rec (some false) (Bool.rec (some false) (Bool.rec (some false) (some true) (Ba b b)) (Ba a a)) (Bm l c l c)):=by kernel_rfl
 rw[e,Ax6,Ak7,Ak7];rfl
def isLet(x:Db):Bool:=decide (x.kind=4)&&decide (x.text.head?≠some 34)
def lc(l:List Db):Nat:=l.countP isLet
theorem Aik{s:List UInt8}(h:(Bb s).1≠[]):s.head?≠some 34:=by
 intro e
 cases s with
 |nil=>cases e
 |cons c r=>
  obtain rfl:c=34:=Option.some.inj e
  exact h rfl
theorem A89(g:GS)(x:Db)(b:List UInt8)(k:Nat)(hx:x.kind=4):(g.add x b k).ds.length≤g.ds.length+lc [x]:=by
 unfold GS.add
 split
 · exact Nat.le_add_right _ _
 · rename_i h
   have hl:(Bb x.text).1≠[]:=fun e=>h (.inl e)
   have h1:lc [x]=1:=by
    unfold lc isLet
    rw[List.countP_cons,hx,decide_eq_true (Aik hl)]
    rfl
   rw[h1]
   split
   · exact Nat.le_succ _
   · split
     · exact Nat.le_succ _
     · rw[List.length_append];exact Nat.le_refl _
theorem Aoe(x:Db)(l:List Db):lc (x::l)=lc [x]+lc l:=by
 unfold lc
 rw[←List.countP_append];rfl
theorem Aul:∀(l:List Db)(k:Nat)(g:GS),(∀x∈l,x.kind≠7)→∃u,u≤l.length∧(Ed l k g).cnt=g.cnt+u∧(u=0→(Ed l k g).ds=g.ds∧(Ed l k g).used=g.used)∧(0<u→(Ed l k g).used=k+u)∧(Ed l k g).ds.length≤g.ds.length+lc (l.take u)
 |[],k,g,_=>⟨0,Nat.le_refl _,rfl,fun _=>⟨rfl,rfl⟩,fun h=>absurd h (Nat.lt_irrefl _),Nat.le_add_right _ _⟩
 |x::l,k,g,h7=>by
  have h0:x.kind≠7:=h7 x (List.mem_cons_self ..)
  have stop:∃u,u≤(x::l).length∧g.cnt=g.cnt+u∧(u=0→g.ds=g.ds∧g.used=g.used)∧(0<u→g.used=k+u)∧g.ds.length≤g.ds.length+lc ((x::l).take u):=⟨0,Nat.zero_le _,rfl,fun _=>⟨rfl,rfl⟩,fun h=>absurd h (Nat.lt_irrefl _),Nat.le_add_right _ _⟩
  unfold Ed
  rw[if_neg h0]
  split
  · rename_i h4
    split
    · exact stop
    · rename_i b _
      obtain⟨u,u1,u2,u3,u4,u5⟩:=Aul l (k+1) (g.add x b (k+1)) fun y hy=>h7 y (List.mem_cons_of_mem _ hy)
      obtain⟨a1,a2,_⟩:=g.Agv x b (k+1)
      have a3:=A89 g x b (k+1) h4
      refine⟨u+1,Nat.succ_le_succ u1,by rw[u2,a1];omega,fun h=>absurd h (Nat.succ_ne_zero _),fun _=>?_,?_⟩
      · by_cases e:u=0
        · rw[(u3 e).2,a2,e]
        · rw[u4 (Nat.pos_of_ne_zero e)];omega
      · rw[List.take_succ_cons,Aoe];omega
  · exact stop
def Ia(O:List CT):Nat:=(O.map CT.cnt).sum
def OKs(A:List Db):Nat→List CT→Prop
 |a,[]=>a≤A.length
 |a,o::O=>a≤o.frm∧1≤o.kind∧o.kind≤7∧1≤o.cnt∧(∃y,A[o.frm]? =some y∧o.file=y.file∧o.f=y.f∧o.t=y.t)∧o.frm+o.cnt≤A.length∧OKs A (o.frm+o.cnt) O
theorem OKs.mono{A:List Db}{a b:Nat}(h:a≤b):∀{O:List CT},OKs A b O→OKs A a O
 |[],h'=>Nat.le_trans h h'
 |_::_,h'=>⟨Nat.le_trans h h'.1,h'.2⟩
theorem Atu{x:Db}{p:Nat×List UInt8}(h:Hx x=some p):1≤p.1∧p.1≤7:=by
 unfold Hx at h
 split at h
 · split at h<;>(cases h;simp)
 · split at h
   · split at h
     · cases h;simp
     · split at h
       · cases h;simp
       · cases h
   · split at h
     · split at h
       · cases h;simp
       · cases h
     · split at h
       · cases e:Kq x.text with
         |none=>rw[e] at h;cases h
         |some u=>rw[e] at h;cases h;simp
       · cases h
theorem Rg {A : List Db} (h7 : ∀ x ∈ A, x.kind ≠ 7) : ∀ (l : List Db) (i k : Nat), l = A.drop i → k ≤ l.length → i + l.length = A.length →
    ∃ O', (Dk l i k).1 = O' ++ [⟨8, [], [], 0, 0, A.length, 0⟩] ∧ OKs A (i + k) O' ∧ Ia O' ≤ l.length - k ∧ l.length - k ≤ Ia O' + (Dk l i k).2.length ∧ Ia O' + (Dk l i k).2.length ≤ l.length - k + lc (l.drop k)
  | [], i, k, _, hk, hA => by
    have : k = 0 := Nat.eq_zero_of_le_zero hk
    subst this
    rw [Dk]
    rw [List.length_nil, Nat.add_zero] at hA
    refine ⟨[], by rw [hA]; rfl, by show i + 0 ≤ A.length; omega, Nat.zero_le _, Nat.zero_le _, Nat.zero_le _⟩
  | x :: l, i, k, hl, hk, hA => by
    have hl' : l = A.drop (i + 1) := by
      have : (x :: l).drop 1 = (A.drop i).drop 1 := by rw [hl]
      rw [List.drop_drop] at this; exact this
    have hA' : i + 1 + l.length = A.length := by rw [List.length_cons] at hA; omega
    have hx : A[i]? = some x := by
      have : (A.drop i)[0]? = some x := by rw [← hl]; rfl
      rw [List.getElem?_drop] at this; exact this
    have hxm : x ∈ A := List.mem_of_getElem? hx
    have h0 := h7 x hxm
    have hlm : ∀ y ∈ l, y.kind ≠ 7 := fun y hy => h7 y (by rw [hl'] at hy; exact List.mem_of_mem_drop hy)
    cases k with
    | succ k =>
      obtain ⟨O', o1, o2, o3, o4, o5⟩ := Rg h7 l (i + 1) k hl' (by simpa using hk) hA'
      rw [Dk]
      refine ⟨O', o1, by rw [show i + (k + 1) = i + 1 + k by omega]; exact o2, ?_, ?_, ?_⟩
      · rw [List.length_cons]; omega
      · rw [List.length_cons]; omega
      · rw [List.length_cons, List.drop_succ_cons]; omega
    | zero =>
      obtain ⟨O', o1, o2, o3, o4, o5⟩ := Rg h7 l (i + 1) 0 hl' (Nat.zero_le _) hA'
      rw [List.drop_zero] at o5 ⊢
      rw [Nat.sub_zero] at o3 o4 o5
      have hcons := Aoe x l
      rw [Nat.sub_zero, List.length_cons, Nat.add_zero]
      have skip : ∃ O'', (Dk l (i + 1) 0).1 = O'' ++ [⟨8, [], [], 0, 0, A.length, 0⟩] ∧ OKs A i O'' ∧ Ia O'' ≤ l.length + 1 ∧ l.length + 1 ≤ Ia O'' + (x.dt :: (Dk l (i + 1) 0).2).length ∧ Ia O'' + (x.dt :: (Dk l (i + 1) 0).2).length ≤ l.length + 1 + lc (x :: l) :=
        ⟨O', o1, o2.mono (by omega), by omega, by rw [List.length_cons]; omega, by rw [List.length_cons]; omega⟩
      rw [Dk]
      split
      · rename_i h4
        obtain ⟨u, u1, u2, u3, u4, u5⟩ := Aul (x :: l) 0 g0 fun y hy => by
          rcases List.mem_cons.1 hy with rfl | hy
          · exact h0
          · exact hlm y hy
        have u2 : (Ed (x :: l) 0 g0).cnt = u := by rw [u2]; exact Nat.zero_add _
        split
        · exact skip
        · rename_i hc
          have hu : 0 < u := by omega
          have u4 := u4 hu
          rw [Nat.zero_add] at u4
          rw [List.length_cons] at u1
          obtain ⟨P', p1, p2, p3, p4, p5⟩ := Rg h7 l (i + 1) (u - 1) hl' (by omega) hA'
          rw [u4, u2]
          refine ⟨⟨6, (Ed (x :: l) 0 g0).first ++ Rr (Ed (x :: l) 0 g0).acc, x.file, x.f, x.t, i, u⟩ :: P', by rw [p1]; rfl, ⟨Nat.le_refl _, by show 1 ≤ 6; omega, by show 6 ≤ 7; omega, hu, ⟨x, hx, rfl, rfl, rfl⟩, by show i + u ≤ A.length; omega, ?_⟩, ?_, ?_, ?_⟩
          · show OKs A (i + u) P'
            rw [show i + u = i + 1 + (u - 1) by omega]; exact p2
          · show u + Ia P' ≤ _
            omega
          · show _ ≤ u + Ia P' + _
            rw [List.length_append]; omega
          · show u + Ia P' + _ ≤ _
            rw [List.length_append]
            have e1 : lc (x :: l) = lc ((x :: l).take u) + lc (l.drop (u - 1)) := by
              have : (x :: l).drop u = l.drop (u - 1) := by
                obtain ⟨v, rfl⟩ : ∃ v, u = v + 1 := ⟨u - 1, by omega⟩
                rfl
              rw [← this]
              unfold lc
              rw [← List.countP_append, List.take_append_drop]
            have : g0.ds.length = 0 := rfl
            omega
      · split
        · exact skip
        · rename_i p hp
          have hkp := Atu hp
          refine ⟨⟨p.1, p.2, x.file, x.f, x.t, i, 1⟩ :: O', by rw [o1]; rfl, ⟨Nat.le_refl _, hkp.1, hkp.2, Nat.le_refl _, ⟨x, hx, rfl, rfl, rfl⟩, by show i + 1 ≤ A.length; omega, o2⟩, ?_, ?_, ?_⟩
          · show 1 + Ia O' ≤ l.length + 1
            omega
          · show l.length + 1 ≤ 1 + Ia O' + (Dk l (i + 1) 0).2.length
            omega
          · show 1 + Ia O' + (Dk l (i + 1) 0).2.length ≤ l.length + 1 + lc (x :: l)
            omega
theorem RdT.ext{h h':H}{v:AV}{L:List Db}(hr:RdT h v L)(x:Exh h h'):RdT h' v L:=by
 rcases hr with hr|hr
 · exact .inl hr
 · exact .inr (hr.ext x)
abbrev kTe:KV:=fun v _=>v=.bool true
theorem Ao5{h:H}(he:Ly h){k:KV}(hk:k (.bool true) h):W1 (.func 15) [] h k:=Acg c15 rfl rfl he hk
theorem A1s{O:List CT}{i:Nat}(hi:i<O.length){h':i<(O.map CT.cells).length}:(O.map CT.cells)[i]=O[i].cells:=List.getElem_map ..
theorem Ym{L:List Db}{i:Nat}(hi:i<L.length){h':i<(L.map Db.cells).length}:(L.map Db.cells)[i]=L[i].cells:=List.getElem_map ..
theorem Aze{A:List Db}{i:Nat}(hi:i<A.length):lc (A.take (i+1))=lc (A.take i)+(if isLet A[i]=true then 1 else 0):=by
 rw[List.take_succ_eq_append_getElem hi]
 unfold lc
 rw[List.countP_append,List.countP_cons,List.countP_nil,Nat.zero_add]
theorem Aqj{O:List CT}{i:Nat}(hi:i<O.length):Ia (O.take (i+1))=Ia (O.take i)+O[i].cnt:=by
 rw[List.take_succ_eq_append_getElem hi]
 unfold Ia
 rw[List.map_append,List.sum_append];rfl
theorem Az8{O:List CT}(i:Nat):Ia (O.take i)≤Ia O:=by
 have:O=O.take i++O.drop i:=(List.take_append_drop i O).symm
 have e:Ia O=Ia (O.take i)+Ia (O.drop i):=by
  conv=>lhs;rw[this]
  unfold Ia
  rw[List.map_append,List.sum_append]
 omega
theorem OKs.at{A:List Db}:∀{O:List CT}{a:Nat},OKs A a O→∀i (hi:i<O.length),1≤O[i].kind∧O[i].kind≤7∧1≤O[i].cnt∧(∃y,A[O[i].frm]? =some y∧O[i].file=y.file∧O[i].f=y.f∧O[i].t=y.t)∧O[i].frm+O[i].cnt≤A.length∧(i=0→a≤O[i].frm)∧(∀h1:i+1<O.length,O[i].frm+O[i].cnt≤O[i+1].frm)
 |[],_,_,i,hi=>absurd hi (Nat.not_lt_zero _)
 |o::O,a,h,0,_=>by
  obtain⟨h1,h2,h3,h4,h5,h6,h7⟩:=h
  refine⟨h2,h3,h4,h5,h6,fun _=>h1,fun h'=>?_⟩
  cases O with
  |nil=>simp at h'
  |cons p O=>exact h7.1
 |o::O,a,h,i+1,hi=>by
  have hi':i<O.length:=by simpa using hi
  obtain⟨a1,a2,a3,a4,a5,a6,a7⟩:=OKs.at h.2.2.2.2.2.2 i hi'
  exact⟨a1,a2,a3,a4,a5,fun e=>absurd e (Nat.succ_ne_zero _),fun h'=>a7 (by simpa using h')⟩
theorem A4m{x:Db}(hx:0<x.text.length):isLet x=(decide (x.kind=4)&&!decide (x.text[0]=UInt8.ofNat 34)):=by
 unfold isLet
 have e:x.text.head? =some x.text[0]:=by
  rw[List.head?_eq_getElem?,List.getElem?_eq_getElem hx]
 rw[e]
 by_cases h:x.text[0]=34
 · rw[h];rfl
 · have h':¬x.text[0]=UInt8.ofNat 34:=h
   rw[decide_eq_false h',decide_eq_true (show some x.text[0]≠some (34:UInt8) from fun e=>h (Option.some.inj e))];rfl
def Wi(n:Nat):CT:=⟨8,[],[],0,0,n,0⟩
section
variable{h:H}{A:List Db}{v3 vd:AV}{PL:List CT}{D:List DT}{lo:Nat}(he:Ly h)(hr:RdT h v3 A)(hA:A.length≤2000)(hne:∀x∈A,0<x.text.length)(hd:Cv 48 4 lo h vd (D.map DT.cells))
 (c1:Ia PL≤A.length) (c2:A.length≤Ia PL+D.length) (c3:Ia PL+D.length≤A.length+lc A)
include he hr hA hne hd c1 c2 c3
theorem Blk{p:P}(ap:AtP h p 0 (Wi A.length).cells)(n:Nat):∀i,2*(A.length-i)+2≤n→i≤A.length→(r4 W1 kTe n).a2 v3 vd (Int.ofNat (Ia PL)) (.ptr p 0) (Int.ofNat (lc (A.take i))) (Int.ofNat i) h:=by
 induction n using Nat.strongRecOn with
 |_ n ih=>
  intro i hn hi
  obtain⟨n,rfl⟩:∃m,n=m+2:=⟨n-2,by omega⟩
  have hlc:∀j,lc (A.take j)≤A.length:=fun j=>Nat.le_trans List.countP_le_length (by rw[List.length_take];omega)
  refine Bjk ?_
  unfold Ayf
  rw[hr.len,ilt]
  refine Az (fun e=>?_) (fun e=>?_)
  · have e:i<A.length:=of_decide_eq_true e
    have e':i<(A.map Db.cells).length:=by rw[List.length_map];exact e
    have hx:=hne _ (List.getElem_mem e)
    have next:(r4 W1 kTe (n+1)).a3 v3 vd (Int.ofNat (Ia PL)) (.ptr p 0) (Int.ofNat (lc (A.take (i+1)))) (Int.ofNat i) h:=by
     refine Bjj ?_
     unfold Aye
     rw[De,Cg (by omega),As]
     exact ih n (by omega) (i+1) (by omega) e
    rw[Aze e] at next
    rw[Ap]
    refine(hr.rd e).fld (j:=0) e' (by rw[Ym e];show 0<8;decide) ?_
    simp only[Ym e]
    show asI .i64 (.int .i64 A[i].kind) _
    rw[Au]
    refine Lb (b:=!decide (A[i].text[0]=UInt8.ofNat 34)) (fun k' hk'=>?_) ?_
    · rw[Ap]
      refine(hr.rd e).fld (j:=1) e' (by rw[Ym e];show 1<8;decide) ?_
      simp only[Ym e]
      show asS (S A[i].text) _
      rw[Cl]
      refine Cn hx ?_
      rw[Azk _ 34 (by decide),Br]
      exact hk'
    rw[Aai]
    rw[show(decide (A[i].kind=((4:Nat):Int))&&!decide (A[i].text[0]=UInt8.ofNat 34))=isLet A[i] from(A4m hx).symm]
    have hl1:=hlc i
    refine Az (fun el=>?_) (fun el=>?_)
    · rw[if_pos el] at next
      rw[De,Cg (by omega),As]
      exact next
    · rw[if_neg (by rw[el];exact Bool.false_ne_true),Nat.add_zero] at next
      exact next
  · have e:i=A.length:=by have:=of_decide_eq_false e;omega
    rw[e,List.take_length]
    have hl1:=hlc A.length
    rw[List.take_length] at hl1
    rw[Av]
    refine ap.ld1 (j:=0) (by show 0<7;decide) ?_
    show asI .i64 (.int .i64 (.ofNat 8)) _
    rw[Au]
    refine Gi (fun _=>?_) (fun e=>nomatch e)
    rw[Av]
    refine ap.ld1 (j:=5) (by show 5<7;decide) ?_
    show asI .i64 (.int .i64 (.ofNat A.length)) _
    rw[Au,hr.len]
    refine Gi (fun _=>?_) (fun e=>by rw[Ak7] at e;cases e)
    rw[Av]
    refine ap.ld1 (j:=6) (by show 6<7;decide) ?_
    show asI .i64 (.int .i64 (.ofNat 0)) _
    rw[Au]
    refine Gi (fun _=>?_) (fun e=>nomatch e)
    rw[hr.len,ile]
    refine Gi (fun _=>?_) (fun e=>absurd c1 (of_decide_eq_false e))
    rw[hd.len,List.length_map,De,Cg (by omega),As,hr.len,ile]
    refine Gi (fun _=>?_) (fun e=>absurd c2 (of_decide_eq_false e))
    rw[hd.len,List.length_map,De,Cg (by omega),As,hr.len,De,Cg (by omega),As,ile]
    refine Gi (fun _=>?_) (fun e=>absurd c3 (of_decide_eq_false e))
    refine Ao5 he ?_
    rw[Ce]
theorem Bll{vo:AV}{lo':Nat}(hb:Cv 40 7 lo' h vo ((PL++[Wi A.length]).map CT.cells))(ok:OKs A 0 PL)(hPL:PL.length≤5000)(n:Nat):∀i a,2*(PL.length+1-i)+(2*A.length+10)≤n→i≤PL.length+1→(∀hi:i<PL.length,a≤PL[i].frm)→a≤A.length→(r4 W1 kTe n).a1 v3 vo vd (Int.ofNat a) (Int.ofNat (Ia (PL.take i))) (Int.ofNat i) h:=by
 induction n using Nat.strongRecOn with
 |_ n ih=>
  intro i a hn hi hat ha
  obtain⟨n,rfl⟩:∃m,n=m+2:=⟨n-2,by omega⟩
  have hlen:((PL++[Wi A.length]).map CT.cells).length=PL.length+1:=by rw[List.length_map,List.length_append];rfl
  have hne0:(PL++[Wi A.length]).map CT.cells≠[]:=List.length_pos_iff.1 (by omega)
  have rb:=hb.rd hne0
  have hct:=Az8 (O:=PL) i
  refine Bjl ?_
  unfold Ayg
  rw[hb.len,hlen,ilt]
  refine Az (fun e=>?_) (fun e=>?_)
  · have e:i<PL.length+1:=of_decide_eq_true e
    have e1:i<(PL++[Wi A.length]).length:=by rw[List.length_append];exact e
    have e':i<((PL++[Wi A.length]).map CT.cells).length:=by rw[hlen];exact e
    generalize ho:(PL++[Wi A.length])[i]=o
    have hget:((PL++[Wi A.length]).map CT.cells)[i]=o.cells:=by rw[A1s e1,ho]
    have hpl:∀h1:i<PL.length,PL[i]=o:=fun h1=>by rw[←ho,List.getElem_append_left h1]
    have hend:¬i<PL.length→o=Wi A.length:=fun h1=>by
     have:i=PL.length:=by omega
     subst this
     rw[←ho,List.getElem_append_right (Nat.le_refl _)]
     simp only[Nat.sub_self,List.getElem_cons_zero]
    have hao:a≤o.frm:=by
     by_cases h1:i<PL.length
     · rw[←hpl h1];exact hat h1
     · rw[hend h1];exact ha
    have hole:o.frm≤A.length∧o.frm+o.cnt≤A.length:=by
     by_cases h1:i<PL.length
     · have:=(ok.at i h1).2.2.2.2.1
       rw[hpl h1] at this;omega
     · rw[hend h1];exact⟨Nat.le_refl _,Nat.le_refl _⟩
    have fin:(r4 W1 kTe (n+1)).a4 v3 vo vd (Int.ofNat (Ia (PL.take i))) (Int.ofNat i) h:=by
     refine Bji ?_
     unfold Ayd
     rw[Ap]
     refine rb.fld (j:=5) e' (by rw[hget];show 5<7;decide) ?_
     simp only[hget]
     show asI .i64 (.int .i64 (.ofNat o.frm)) _
     rw[Au,Ap]
     refine rb.fld (j:=6) e' (by rw[hget];show 6<7;decide) ?_
     simp only[hget]
     show asI .i64 (.int .i64 (.ofNat o.cnt)) _
     rw[Au,De,Cg (by omega),As,Ap]
     refine rb.fld (j:=6) e' (by rw[hget];show 6<7;decide) ?_
     simp only[hget]
     show asI .i64 (.int .i64 (.ofNat o.cnt)) _
     rw[Au,De,Cg (by omega),As,De,Cg (by omega),As]
     have hs:Ia (PL.take i)+o.cnt=Ia (PL.take (i+1)):=by
      by_cases h1:i<PL.length
      · rw[Aqj h1,hpl h1]
      · rw[hend h1,List.take_of_length_le (by omega),List.take_of_length_le (by omega)];rfl
     rw[hs]
     refine ih n (by omega) (i+1) _ (by omega) (by omega) (fun h1=>?_) (by omega)
     have:=(ok.at i (by omega)).2.2.2.2.2.2 h1
     rw[hpl (by omega)] at this;exact this
    rw[Ap]
    refine rb.fld (j:=5) e' (by rw[hget];show 5<7;decide) ?_
    simp only[hget]
    show asI .i64 (.int .i64 (.ofNat o.frm)) _
    rw[Au,ilt]
    refine Pq (fun _=>?_) (fun e=>absurd (of_decide_eq_true e) (by omega))
    rw[De,Cg (by omega),As,hb.len,hlen,ilt]
    refine Gi (fun e=>?_) (fun _=>?_)
    · have h1:i<PL.length:=by have:=of_decide_eq_true e;omega
      obtain⟨k1,k2,k3,⟨y,hy,y1,y2,y3⟩,k5,_⟩:=ok.at i h1
      rw[hpl h1] at k1 k2 k3 hy y1 y2 y3 k5
      have hfr:o.frm<A.length:=by omega
      have hyA:A[o.frm]=y:=by rw[List.getElem?_eq_getElem hfr] at hy;exact Option.some.inj hy
      have hfr':o.frm<(A.map Db.cells).length:=by rw[List.length_map];exact hfr
      rw[Ap]
      refine rb.fld (j:=0) e' (by rw[hget];show 0<7;decide) ?_
      simp only[hget]
      show asI .i64 (.int .i64 (.ofNat o.kind)) _
      rw[Au,ilt]
      refine Pq (fun _=>?_) (fun e=>absurd (of_decide_eq_true e) (by omega))
      rw[Ap]
      refine rb.fld (j:=0) e' (by rw[hget];show 0<7;decide) ?_
      simp only[hget]
      show asI .i64 (.int .i64 (.ofNat o.kind)) _
      rw[Au,ilt]
      refine Pq (fun _=>?_) (fun e=>absurd (of_decide_eq_true e) (by omega))
      rw[Ap]
      refine rb.fld (j:=6) e' (by rw[hget];show 6<7;decide) ?_
      simp only[hget]
      show asI .i64 (.int .i64 (.ofNat o.cnt)) _
      rw[Au,ilt]
      refine Pq (fun _=>?_) (fun e=>absurd (of_decide_eq_true e) (by omega))
      rw[Ap]
      refine rb.fld (j:=5) e' (by rw[hget];show 5<7;decide) ?_
      simp only[hget]
      show asI .i64 (.int .i64 (.ofNat o.frm)) _
      rw[Au,hr.len,ile]
      refine Pq (fun _=>?_) (fun e=>absurd (of_decide_eq_true e) (by omega))
      rw[Ap]
      refine rb.elem e' fun q1 o1 _ _ a1=>?_
      rw[hget] at a1
      rw[Av]
      refine a1.Atq (j:=2) (c:=3) (by show 2+3≤7;decide) ?_
      rw[Ap]
      refine rb.fld (j:=5) e' (by rw[hget];show 5<7;decide) ?_
      simp only[hget]
      show asI .i64 (.int .i64 (.ofNat o.frm)) _
      rw[Au,Ap]
      refine(hr.rd hfr).elem hfr' fun q2 o2 _ _ a2=>?_
      rw[Ym hfr,hyA] at a2
      rw[Av]
      refine a2.Atq (j:=3) (c:=3) (by show 3+3≤8;decide) ?_
      show oV (Kz env .neq 38 (.agg [S o.file,.int .i64 o.f,.int .i64 o.t]) (.agg [S y.file,.int .i64 y.f,.int .i64 y.t])) _
      rw[y1,y2,y3,Bjc,Jd,Ce]
      exact Bo rfl fin
    · exact Bo rfl fin
  · have e:i=PL.length+1:=by have:=of_decide_eq_false e;omega
    subst e
    rw[hb.len,hlen,Wy (by omega),Cg (by omega),As,Nat.add_sub_cancel,Ap]
    have e1:PL.length<(PL++[Wi A.length]).length:=by rw[List.length_append];exact Nat.lt_succ_self _
    have e':PL.length<((PL++[Wi A.length]).map CT.cells).length:=by rw[hlen];exact Nat.lt_succ_self _
    have hget:((PL++[Wi A.length]).map CT.cells)[PL.length]=(Wi A.length).cells:=by
     rw[A1s e1,List.getElem_append_right (Nat.le_refl _)]
     simp only[Nat.sub_self,List.getElem_cons_zero]
    refine rb.elem e' fun q1 o1 _ _ a1=>?_
    rw[hget] at a1
    refine a1.ldn rfl ?_
    refine Ek ?_
    refine Zv (e:=40) (zs:=[(.int .i64 (Int.ofNat 0)),(.str 0 0),(.str 0 0),(.int .i64 (Int.ofNat 0)),(.int .i64 (Int.ofNat 0)),(.int .i64 (Int.ofNat 0)),(.int .i64 (Int.ofNat 0))]) rfl rfl (by decide) fun h1 x1 n1 at1=>?_
    rw[List.take_of_length_le (by omega)]
    exact Blk (h:=h1) (he.keep x1.1 x1.2) (hr.ext x1) hA hne (hd.ext x1) c1 c2 c3 at1 _ 0 (by omega) (Nat.zero_le _)
end
theorem OKs.len{A:List Db}:∀{O:List CT}{a:Nat},OKs A a O→O.length+a≤A.length
 |[],a,h=>by rw[List.length_nil,Nat.zero_add];exact h
 |o::O,a,h=>by
  have:=h.2.2.2.2.2.2.len
  have:=h.1
  have:=h.2.2.2.1
  rw[List.length_cons];omega
theorem c4{h:H}(s:List UInt8)(he:Ly h):W1 (.func 4) [S s] h kTe:=by
 refine w4 (n:=4*s.length+20+1) Bl (g4 ?_)
 unfold Ayh
 rw[ilt]
 refine Az (fun _=>?_) (fun e=>?_)
 · refine Ao5 he ?_
   rw[Ce]
 have hs:s.length≤1500:=by have:=of_decide_eq_false e;omega
 refine A0j (by omega) fun h1 v T hT hTl x1 rT=>?_
 have he1:=he.keep x1.1 x1.2
 have hAl:(T.map Vq).length≤2000:=by rw[List.length_map];omega
 have hAs:(T.map Vq).length≤s.length+1:=by rw[List.length_map];exact hTl
 have hmem:∀y∈T.map Vq,∃x∈T,Vq x=y:=fun y hy=>List.mem_map.1 hy
 have h7:∀y∈T.map Vq,y.kind≠7:=fun y hy=>by
  obtain⟨x,hx,rfl⟩:=hmem y hy
  have:=(hT x hx).2.2
  show(x.kind:Int)≠7
  omega
 have hne:∀y∈T.map Vq,0<y.text.length:=fun y hy=>by
  obtain⟨x,hx,rfl⟩:=hmem y hy
  exact List.length_pos_iff.2 (hT x hx).1
 refine c16 rT hAl (fun y hy=>?_) he1 fun h2 vo vd x2 bo bd=>?_
 · obtain⟨x,hx,rfl⟩:=hmem y hy
   have:=(hT x hx).2.1
   show x.text.length≤2000
   omega
 obtain⟨PL,p1,p2,p3,p4,p5⟩:=Rg h7 (T.map Vq) 0 0 rfl (Nat.zero_le _) (Nat.zero_add _)
 rw[Nat.sub_zero] at p3 p4 p5
 rw[List.drop_zero] at p5
 have hpl:=p2.len
 have hlcA:lc (T.map Vq)≤(T.map Vq).length:=List.countP_le_length
 generalize hA:T.map Vq=A at*
 generalize hD:(Dk A 0 0).2=D at*
 rw[p1] at bo
 rw[Ep,Ez,bo.len,List.length_map,List.length_append,Ru]
 refine Bo (decide_eq_false (by simp)) ?_
 exact Bll (he1.keep x2.1 x2.2) (rT.ext x2) hAl hne bd p3 p4 p5 bo p2 (by omega) _ 0 0 (by omega) (Nat.zero_le _) (fun _=>Nat.zero_le _) (Nat.zero_le _)
end Go.Den
