/-
 Proof.
-/
import Derived.Test.YtheajahjkmfeaaaGreatDoorCrd
import Derived.Test.YtheajahjkmfeaaaGreatDoorBka
noncomputable section
namespace Go.Den
open Go.RowKit
set_option maxRecDepth 100000
open Go.Lx (Rn bts Bt Er Ke toR Fy Gz Ls Rh Kz Iz Nh idL Qt at0)
abbrev TWk:TypeId:=163
theorem Cl(L:List Rn):(bts L).length=L.length:=List.length_map ..
theorem Se{L:List Rn}{i:Nat}(h:i<L.length)(h':i<(bts L).length):(bts L)[i]=L[i].1:=List.getElem_map ..
theorem Jg{B:List UInt8}{i j:Nat}:at0 (B.drop i) j=bt B (i+j):=by
 unfold at0 bt
 rw[List.getD_eq_getElem?_getD,List.getD_eq_getElem?_getD,List.getElem?_drop]
theorem Tp(x:UInt8)(m:Nat)(hm:m<256):Bx (Int.ofNat x.toNat) (Int.ofNat m)=decide (x=UInt8.ofNat m):=toNat_eq x m hm
def Old(p:P)(v:AV):Prop:=∀q o n z b,v=.slice q o n z b→q.nat<p.nat
structure Wk(h:H)(pW:P)(fl:List UInt8)(L:List Rn)(a:Nat)(vd:AV)(sp:Bool)(q:Int):Prop where
 n:pW.nat<h.next.nat
 row:∃t,h.at pW=.row t 6 0 TWk true∧Aw t 0=S fl∧SlR 3 h (Aw t 1) (cel L)∧Old pW (Aw t 1)∧Aw t 2=.int .i64 (.ofNat a)∧Aw t 3=vd∧Aw t 4=.bool sp∧Aw t 5=.int .i64 q
section
variable{h:H}{pW:P}{fl:List UInt8}{L:List Rn}{a:Nat}{vd:AV}{sp:Bool}{q:Int}
theorem Wk.ext{h':H}(w:Wk h pW fl L a vd sp q)(x:Exh h h'):Wk h' pW fl L a vd sp q:=by
 obtain⟨t,h1,h2,h3,h4⟩:=w.row
 exact⟨Nat.lt_of_lt_of_le w.n x.1,t,by rw[x.2 _ w.n];exact h1,h2,h3.ext x,h4⟩
theorem Wk.keep{h':H}(w:Wk h pW fl L a vd sp q)(hn:h.next.nat≤h'.next.nat)(hf:∀c,c.nat<pW.nat+1→h'.at c=h.at c):Wk h' pW fl L a vd sp q:=by
 obtain⟨t,h1,h2,h3,h4,h5⟩:=w.row
 refine⟨Nat.lt_of_lt_of_le w.n hn,t,by rw[hf _ (Nat.lt_succ_self _)];exact h1,h2,?_,h4,h5⟩
 rcases h3 with h3|⟨q',o,c,m,b,e,a1,a2,a3⟩
 · exact .inl h3
 · exact .inr ⟨q',o,c,m,b,e,Nat.lt_of_lt_of_le a1 hn,a2.frame (hf _ (Nat.lt_succ_of_lt (h4 _ _ _ _ _ e))),a3⟩
theorem Wk.file{K:Nat→Nat→H→Prop}(w:Wk h pW fl L a vd sp q)(hk:K fl.length (enc fl) h):oK (Ag (.ptr pW 0) h) fun v1 h2=>Ac 0 v1 fun v3=>ld1 v3 h2 fun v4=>asS v4 fun l c=>K l c h2:=by
 obtain⟨t,h1,h2,_⟩:=w.row
 rw[Am,Ad,Ae]
 refine Eh h1 (by decide) ?_
 show asS (Aw t 0) _
 rw[h2,Eg];exact hk
theorem Wk.pos{K:Int→H→Prop}(w:Wk h pW fl L a vd sp q)(hk:K (Int.ofNat a) h):oK (Ag (.ptr pW 0) h) fun v1 h2=>Ac 2 v1 fun v3=>ld1 v3 h2 fun v4=>asI .i64 v4 fun n=>K n h2:=by
 obtain⟨t,h1,_,_,_,h2,_⟩:=w.row
 rw[Am,Ad,Ae]
 refine Eh h1 (by decide) ?_
 show asI .i64 (Aw t 2) _
 rw[h2,Bj];exact hk
theorem Wk.l{K:AV→H→Prop}(w:Wk h pW fl L a vd sp q)(hk:∀v,SlR 3 h v (cel L)→K v h):oK (Ag (.ptr pW 0) h) fun v1 h2=>Ac 1 v1 fun v3=>ld1 v3 h2 fun v4=>K v4 h2:=by
 obtain⟨t,h1,_,h2,_⟩:=w.row
 rw[Am,Ad,Ae]
 exact Eh h1 (by decide) (hk _ h2)
theorem Wk.dg{K:AV→H→Prop}(w:Wk h pW fl L a vd sp q)(hk:K vd h):oK (Ag (.ptr pW 0) h) fun v1 h2=>Ac 3 v1 fun v3=>ld1 v3 h2 fun v4=>K v4 h2:=by
 obtain⟨t,h1,_,_,_,_,h2,_⟩:=w.row
 rw[Am,Ad,Ae]
 refine Eh h1 (by decide) ?_
 rw[show Aw t (0+3)=vd from h2];exact hk
theorem Wk.quo{K:Int→H→Prop}(w:Wk h pW fl L a vd sp q)(hk:K q h):oK (Ag (.ptr pW 0) h) fun v1 h2=>Ac 5 v1 fun v3=>ld1 v3 h2 fun v4=>asI .i64 v4 fun n=>K n h2:=by
 obtain⟨t,h1,_,_,_,_,_,_,h2⟩:=w.row
 rw[Am,Ad,Ae]
 refine Eh h1 (by decide) ?_
 show asI .i64 (Aw t 5) _
 rw[h2,Bj];exact hk
theorem Wk.set{K:H→Prop}(w:Wk h pW fl L a vd sp q){j:Nat}{v:AV}(hj:j<6)(hv:v.one=true)(hk:∀h' t,h.at pW=.row t 6 0 TWk true→h'.next=h.next→h'.at pW=.row (Aj [v] j t) 6 0 TWk true→(∀c,c≠pW→h'.at c=h.at c)→K h'):oK (Ag (.ptr pW 0) h) fun v1 h2=>Ac j v1 fun v3=>st1 v3 v h2 K:=by
 obtain⟨t,h1,_⟩:=w.row
 rw[Am,Ad,Ae]
 refine Iw h1 (Nat.zero_le _) (by omega) hv ?_
 rw[Nat.zero_add]
 exact hk _ t h1 rfl (Ba _ _ _) fun c hc=>Az hc
theorem Yx{h h':H}(hn:h'.next=h.next)(hf:∀c,c≠pW→h'.at c=h.at c):FrX (fun c=>c=pW) h h':=⟨by rw[hn];exact Nat.le_refl _,fun c _ hx=>hf c hx⟩
theorem Wk.setPos{K:H→Prop}(w:Wk h pW fl L a vd sp q){b:Nat}(hk:∀h',h'.next=h.next→(∀c,c≠pW→h'.at c=h.at c)→Wk h' pW fl L b vd sp q→K h'):oK (Ag (.ptr pW 0) h) fun v1 h2=>Ac 2 v1 fun v3=>st1 v3 (.int .i64 (Int.ofNat b)) h2 K:=by
 obtain⟨t0,e0,g0,g1,g2,g3,g4,g5,g6⟩:=w.row
 refine w.set (by decide) rfl fun h' t e n a1 f=>?_
 rw[e0] at e;cases e
 refine hk h' n f ⟨by rw[n];exact w.n,_,a1,?_,?_,?_,?_,?_,?_,?_⟩
 · rw[Ah];simpa using g0
 · rw[show Aw (Aj [.int .i64 (Int.ofNat b)] 2 t0) 1=Aw t0 1 by rw[Ah];simp];exact g1.frx (Yx n f) fun q' o n z b e e'=>by have:=g2 q' o n z b e;rw[e'] at this;exact Nat.lt_irrefl _ this
 · rw[show Aw (Aj [.int .i64 (Int.ofNat b)] 2 t0) 1=Aw t0 1 by rw[Ah];simp];exact g2
 · rw[Ah];simp
 · rw[Ah];simpa using g4
 · rw[Ah];simpa using g5
 · rw[Ah];simpa using g6
theorem Wk.Bdi{K:H→Prop}(w:Wk h pW fl L a vd sp q){vd':AV}(hv:vd'.one=true)(hk:∀h',h'.next=h.next→(∀c,c≠pW→h'.at c=h.at c)→Wk h' pW fl L a vd' sp q→K h'):oK (Ag (.ptr pW 0) h) fun v1 h2=>Ac 3 v1 fun v3=>st1 v3 vd' h2 K:=by
 obtain⟨t0,e0,g0,g1,g2,g3,g4,g5,g6⟩:=w.row
 refine w.set (by decide) hv fun h' t e n a1 f=>?_
 rw[e0] at e;cases e
 refine hk h' n f ⟨by rw[n];exact w.n,_,a1,?_,?_,?_,?_,?_,?_,?_⟩
 · rw[Ah];simpa using g0
 · rw[show Aw (Aj [vd'] 3 t0) 1=Aw t0 1 by rw[Ah];simp];exact g1.frx (Yx n f) fun q' o n z b e e'=>by have:=g2 q' o n z b e;rw[e'] at this;exact Nat.lt_irrefl _ this
 · rw[show Aw (Aj [vd'] 3 t0) 1=Aw t0 1 by rw[Ah];simp];exact g2
 · rw[Ah];simpa using g3
 · rw[Ah];simp
 · rw[Ah];simpa using g5
 · rw[Ah];simpa using g6
theorem Wk.Oe{K:H→Prop}(w:Wk h pW fl L a vd sp q){b:Bool}(hk:∀h',h'.next=h.next→(∀c,c≠pW→h'.at c=h.at c)→Wk h' pW fl L a vd b q→K h'):oK (Ag (.ptr pW 0) h) fun v1 h2=>Ac 4 v1 fun v3=>st1 v3 (.bool b) h2 K:=by
 obtain⟨t0,e0,g0,g1,g2,g3,g4,g5,g6⟩:=w.row
 refine w.set (by decide) rfl fun h' t e n a1 f=>?_
 rw[e0] at e;cases e
 refine hk h' n f ⟨by rw[n];exact w.n,_,a1,?_,?_,?_,?_,?_,?_,?_⟩
 · rw[Ah];simpa using g0
 · rw[show Aw (Aj [.bool b] 4 t0) 1=Aw t0 1 by rw[Ah];simp];exact g1.frx (Yx n f) fun q' o n z b e e'=>by have:=g2 q' o n z b e;rw[e'] at this;exact Nat.lt_irrefl _ this
 · rw[show Aw (Aj [.bool b] 4 t0) 1=Aw t0 1 by rw[Ah];simp];exact g2
 · rw[Ah];simpa using g3
 · rw[Ah];simpa using g4
 · rw[Ah];simp
 · rw[Ah];simpa using g6
theorem Wk.Aj9{K:H→Prop}(w:Wk h pW fl L a vd sp q){b:Int}(hk:∀h',h'.next=h.next→(∀c,c≠pW→h'.at c=h.at c)→Wk h' pW fl L a vd sp b→K h'):oK (Ag (.ptr pW 0) h) fun v1 h2=>Ac 5 v1 fun v3=>st1 v3 (.int .i64 b) h2 K:=by
 obtain⟨t0,e0,g0,g1,g2,g3,g4,g5,g6⟩:=w.row
 refine w.set (by decide) rfl fun h' t e n a1 f=>?_
 rw[e0] at e;cases e
 refine hk h' n f ⟨by rw[n];exact w.n,_,a1,?_,?_,?_,?_,?_,?_,?_⟩
 · rw[Ah];simpa using g0
 · rw[show Aw (Aj [.int .i64 b] 5 t0) 1=Aw t0 1 by rw[Ah];simp];exact g1.frx (Yx n f) fun q' o n z b e e'=>by have:=g2 q' o n z b e;rw[e'] at this;exact Nat.lt_irrefl _ this
 · rw[show Aw (Aj [.int .i64 b] 5 t0) 1=Aw t0 1 by rw[Ah];simp];exact g2
 · rw[Ah];simpa using g3
 · rw[Ah];simpa using g4
 · rw[Ah];simpa using g5
 · rw[Ah];simp
end
theorem Abg{h:H}{v:AV}{L:List Rn}(hr:SlR 3 h v (cel L)){i:Nat}(hi:i<L.length){K:AV→Prop}(hk:∀q o,AtP h q o (Abh L[i])→K (.ptr q o)):Ce (Int.ofNat i) fun m=>Cc 3 m v K:=by
 have e':i<(cel L).length:=by rw[Dh];exact hi
 refine Dg ((hr.rd e').elem e' fun q o _ _ ha=>?_)
 rw[Hs hi] at ha
 exact hk q o ha
theorem Xx{h:H}{v:AV}{L:List Rn}(hr:SlR 3 h v (cel L)){i:Nat}(hi:i<L.length){K:Int→Prop}(hk:K (Int.ofNat L[i].1.toNat)):Ce (Int.ofNat i) fun m=>Cc 3 m v fun a=>Ac 0 a fun a=>ld1 a h fun x=>asI .u8 x K:=
 Abg hr hi fun q o ha=>by
  rw[Ae]
  refine ha.ld1 (j:=0) (by show 0<3;decide) ?_
  show asI .u8 (.int .u8 (Int.ofNat L[i].1.toNat)) _
  rw[Bj];exact hk
theorem Bjb{h:H}{v:AV}{L:List Rn}(hr:SlR 3 h v (cel L)){i:Nat}(hi:i<L.length){K:Int→Prop}(hk:K (Int.ofNat L[i].2.1)):Ce (Int.ofNat i) fun m=>Cc 3 m v fun a=>Ac 1 a fun a=>ld1 a h fun x=>asI .i64 x K:=
 Abg hr hi fun q o ha=>by
  rw[Ae]
  refine ha.ld1 (j:=1) (by show 1<3;decide) ?_
  show asI .i64 (.int .i64 (Int.ofNat L[i].2.1)) _
  rw[Bj];exact hk
theorem A3v{h:H}{v:AV}{L:List Rn}(hr:SlR 3 h v (cel L)){i:Nat}(hi:i<L.length){K:Int→Prop}(hk:K (Int.ofNat L[i].2.2)):Ce (Int.ofNat i) fun m=>Cc 3 m v fun a=>Ac 2 a fun a=>ld1 a h fun x=>asI .i64 x K:=
 Abg hr hi fun q o ha=>by
  rw[Ae]
  refine ha.ld1 (j:=2) (by show 2<3;decide) ?_
  show asI .i64 (.int .i64 (Int.ofNat L[i].2.2)) _
  rw[Bj];exact hk
theorem Abn{L:List Rn}{i:Nat}(h:i<L.length):bt (bts L) i=L[i].1:=by
 have h':i<(bts L).length:=by rw[Cl];exact h
 rw[Jk h',Se h]
theorem Xe{L:List Rn}{i:Nat}(h:L.length≤i):bt (bts L) i=0:=Qb (by rw[Cl];exact h)
section
variable{h:H}{pW:P}{fl:List UInt8}{L:List Rn}{a:Nat}{vd:AV}{sp:Bool}{q:Int}
theorem Ar6(w:Wk h pW fl L a vd sp q){n:Nat}(hn:a+n≤1000000000){k:KV}(hk:k (ub (bt (bts L) (a+n))) h):W1 (.func 167) [.ptr pW 0,.int .i64 (Int.ofNat n)] h k:=by
 refine Bcb (n:=1) Bg (Bnm ?_)
 unfold Aer
 refine w.pos (Bw hn (w.l fun v hr=>?_))
 rw[hr.len,Dh,ile]
 refine Br (fun e=>?_) (fun e=>?_)
 · have e:=of_decide_eq_true e
   rw[Xe e] at hk
   exact hk
 · have e:a+n<L.length:=by have:=of_decide_eq_false e;omega
   refine w.l fun v hr=>w.pos (Bw hn (Xx hr e ?_))
   rw[Abn e] at hk
   exact hk
theorem Ii{x y:UInt8}{s t:List UInt8}:List.isPrefixOf (x::s) (y::t)=(decide (x=y)&&List.isPrefixOf s t):=by
 show((x==y)&&List.isPrefixOf s t)=_
 congr 1
theorem Axp(w:Wk h pW fl L a vd sp q){s:List UInt8}(hs:a+s.length≤L.length)(hl:L.length≤1000000000){k:KV}(hk:k (.bool (s.isPrefixOf ((bts L).drop a))) h):∀(n i:Nat),s.length-i<n→i≤s.length→(s.drop i).isPrefixOf ((bts L).drop (a+i))=s.isPrefixOf ((bts L).drop a)→(Ahv W1 k n).a1 (.ptr pW 0) s.length (enc s) (Int.ofNat s.length) (Int.ofNat i) h
 |0,_,hh,_,_=>absurd hh (Nat.not_lt_zero _)
 |n+1,i,hh,hi,ok=>by
  refine A79 ?_
  unfold Aeu
  rw[ilt]
  refine Br (fun e=>?_) (fun e=>?_)
  · have e:i<s.length:=of_decide_eq_true e
    have e2:a+i<L.length:=by omega
    have e3:a+i<(bts L).length:=by rw[Cl];exact e2
    refine w.l fun v hr=>w.pos (Bw (by omega) (Xx hr e2 ?_))
    refine Dg (Fz e ?_)
    rw[A8k,Gv]
    rw[List.drop_eq_getElem_cons e,List.drop_eq_getElem_cons e3,Ii,Se e2] at ok
    refine Br (fun q=>?_) (fun q=>?_)
    · have q:¬L[a+i].1=s[i]:=by simpa using q
      rw[decide_eq_false fun e=>q e.symm,Bool.false_and] at ok
      rw[←ok] at hk
      exact hk
    · have q:L[a+i].1=s[i]:=by simpa using q
      rw[decide_eq_true q.symm,Bool.true_and] at ok
      exact Bw (by omega) (Axp w hs hl hk n (i+1) (by omega) e ok)
  · have e:i=s.length:=by have:=of_decide_eq_false e;omega
    subst e
    rw[List.drop_length] at ok
    have:List.isPrefixOf [] ((bts L).drop (a+s.length))=true:=by cases(bts L).drop (a+s.length)<;>rfl
    rw[this] at ok
    rw[←ok] at hk
    exact hk
theorem Axq(w:Wk h pW fl L a vd sp q){s:List UInt8}(hal:a≤L.length)(ha:a+s.length≤1000000000)(hl:L.length≤1000000000){k:KV}(hk:k (.bool (s.isPrefixOf ((bts L).drop a))) h):W1 (.func 164) [.ptr pW 0,S s] h k:=by
 refine Bce (n:=s.length+2) Bg (Bnp ?_)
 unfold Aev
 refine w.pos (Bw ha (w.l fun v hr=>?_))
 rw[hr.len,Dh,ilt]
 refine Br (fun e=>?_) (fun e=>?_)
 · have e:=of_decide_eq_true e
   have:s.isPrefixOf ((bts L).drop a)=false:=by
    refine Bool.eq_false_iff.2 fun hp=>?_
    obtain⟨t,ht⟩:=List.isPrefixOf_iff_prefix.1 hp
    have:=congrArg List.length ht
    rw[List.length_append,List.length_drop,Cl] at this;omega
   rw[this] at hk;exact hk
 · have e:=of_decide_eq_false e
   exact Axp w (by omega) hl hk _ 0 (by omega) (Nat.zero_le _) rfl
theorem A3q(l c:Nat)(a b:Int)(h:H):Ax env (env.ty 41) [(0,.str l c),(1,.int .i64 a),(2,.int .i64 b)] h=some (.agg [.str l c,.int .i64 a,.int .i64 b],h):=by kernel_rfl
def St(fl:List UInt8)(L:List Rn)(f t:Nat):List AV:=[S fl,.int .i64 (Int.ofNat (Ke L f)),.int .i64 (Int.ofNat (toR L (t-1)))]
theorem Ba2(w:Wk h pW fl L a vd sp q){f t:Nat}(hf:f<L.length)(ht:0<t)(htl:t≤L.length)(hl:L.length≤1000000000){k:KV}(hk:∀h',Exh h h'→k (.agg (St fl L f t)) h'):W1 (.func 121) [.ptr pW 0,.int .i64 (Int.ofNat f),.int .i64 (Int.ofNat t)] h k:=by
 refine Bck (n:=1) Bg (Bnv ?_)
 unfold Ae2
 refine Cy ?_
 have x1:Exh h (h.new Aak):=.new
 have w1:=w.ext x1
 have t1:t-1<L.length:=by omega
 refine w1.file (w1.l fun v hr=>Bjb hr hf (w1.l fun v2 hr2=>?_))
 have es:fI (wrap .i64 (Mg (Int.ofNat t) (Int.ofNat 1)))=fun K=>K (Int.ofNat (t-1)):=by
  funext K
  rw[Avc ht,Pu (by omega),Gp]
 rw[es]
 refine A3v hr2 t1 ?_
 rw[A3q,Ad]
 refine Ko (e:=41) (zs:=[(.str 0 0),(.int .i64 (Int.ofNat 0)),(.int .i64 (Int.ofNat 0))]) rfl rfl (by decide) fun h3 x3 n3 at3=>?_
 refine at3.ldn rfl ?_
 have e:St fl L f t=[S fl,.int .i64 (Int.ofNat L[f].2.1),.int .i64 (Int.ofNat L[t-1].2.2)]:=by
  unfold St Ke toR
  rw[List.getD_eq_getElem?_getD,List.getD_eq_getElem?_getD,List.getElem?_eq_getElem hf,List.getElem?_eq_getElem t1];rfl
 rw[e] at hk
 exact hk h3 x3
end
theorem Ba1(x:UInt8):Pure PP G h0 166 [ub x] (.bool (El x)):=by
 refine Bcc (n:=1) Bg (Bnn ?_)
 unfold Aes
 refine Adx ?_
 refine Aae (b:=(decide (65≤x.toNat)&&decide (x.toNat≤90))) (fun k' hk'=>?_) ?_
 · refine Adx ?_;rw[ile,ile];exact hk'
 refine Bd6 ?_
 rw[ile,ile,Wx];rfl
theorem Ba0(x:UInt8):Pure PP G h0 168 [ub x] (.bool (isDigit x)):=by
 refine Bca (n:=1) Bg (Bnl ?_)
 unfold Aeq
 refine Adx ?_
 rw[ile,ile];rfl
theorem Bjq(x:UInt8):Pure PP G h0 118 [ub x] (.bool (Ov x)):=by
 refine Bcn (n:=1) Bg (Bny ?_)
 unfold Ae8
 refine Aae (b:=(decide (9≤x.toNat)&&decide (x.toNat≤13))&&!decide (x.toNat=10)) (fun k' hk'=>?_) ?_
 · refine Adx ?_
   refine Adx ?_
   rw[ile,ile,Wx,Gv];exact hk'
 rw[Wx]
 have e:(decide (x.toNat=32)||((decide (9≤x.toNat)&&decide (x.toNat≤13))&&!decide (x.toNat=10)))=Ov x:=by
  unfold Ov
  rw[Bool.eq_iff_iff]
  simp only[Bool.or_eq_true,Bool.and_eq_true,decide_eq_true_eq,Bool.not_eq_true',decide_eq_false_iff_not]
  omega
 show AV.bool (decide (x.toNat=32)||((decide (9≤x.toNat)&&decide (x.toNat≤13))&&!decide (x.toNat=10)))=_
 rw[e]
end Go.Den
