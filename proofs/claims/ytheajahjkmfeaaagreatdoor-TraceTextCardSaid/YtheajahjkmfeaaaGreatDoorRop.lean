/-
 Proof.
-/
import Derived.Test.YtheajahjkmfeaaaGreatDoorMak
noncomputable section
namespace Go.Den
open Go.RowKit
set_option maxRecDepth 100000
theorem AtP.pre{h:H}{q:P}{o:Nat}{a b:List AV}(ha:AtP h q o (a++b)):AtP h q o a:=by
 obtain⟨c,m,h1,h2,h3⟩:=ha
 rw[List.length_append] at h2
 refine⟨c,m,h1,by omega,fun j hj=>?_⟩
 rw[h3 j (by rw[List.length_append];omega),List.getElem_append_left hj]
def rcs(s:List UInt8)(a b:AV)(n hi:Nat):List AV:=[S s,a,b,.int .i64 (.ofNat n),.int .i64 (.ofNat hi)]
def Eb:Nat→H→AV→List UInt8→Prop
 |0,_,v,s=>v=.Cm∧s=[]
 |d+1,h,v,s=>(v=.Cm∧s=[])∨∃q hi,v=.ptr q 0∧q.nat<h.next.nat∧hi≤d+1∧
  (AtP h q 0 (rcs s .Cm .Cm s.length hi)∨∃qa b s1 s2,AtP h q 0 (rcs [] (.ptr qa 0) b s.length hi)∧s=s1++s2∧s1≠[]∧Eb d h (.ptr qa 0) s1∧Eb d h b s2)
theorem Eb.ext:∀{d:Nat}{h h':H}{v:AV}{s:List UInt8},Eb d h v s→Exh h h'→Eb d h' v s
 |0,_,_,_,_,hr,_=>hr
 |d+1,h,h',v,s,hr,x=>by
  rcases hr with hr|⟨q,hi,e,hq,hh,hc⟩
  · exact .inl hr
  · refine .inr ⟨q,hi,e,Nat.lt_of_lt_of_le hq x.1,hh,?_⟩
    rcases hc with hc|⟨qa,b,s1,s2,hc,e2,e3,h1,h2⟩
    · exact .inl (hc.ext x hq)
    · exact .inr ⟨qa,b,s1,s2,hc.ext x hq,e2,e3,Eb.ext h1 x,Eb.ext h2 x⟩
theorem Eb.up:∀{d:Nat}{h:H}{v:AV}{s:List UInt8},Eb d h v s→Eb (d+1) h v s
 |0,_,_,_,hr=>.inl hr
 |d+1,h,v,s,hr=>by
  rcases hr with hr|⟨q,hi,e,hq,hh,hc⟩
  · exact .inl hr
  · refine .inr ⟨q,hi,e,hq,by omega,?_⟩
    rcases hc with hc|⟨qa,b,s1,s2,hc,e2,e3,h1,h2⟩
    · exact .inl hc
    · exact .inr ⟨qa,b,s1,s2,hc,e2,e3,Eb.up h1,Eb.up h2⟩
theorem Awa(q:P):Hh env .eql 80 (.ptr q 0) .Cm=some (.bool false):=by kernel_rfl
theorem A1m:Hh env .eql 80 .Cm .Cm=some (.bool true):=by kernel_rfl
theorem Uu{b:Bool}{K:AV→Prop}:oV (some (.bool b)) K=K (.bool b):=rfl
theorem c44{d:Nat}{h:H}{v:AV}{s:List UInt8}{k:KV}(hr:Eb d h v s)(hk:k (.int .i64 (.ofNat s.length)) h):W1 (.func 44) [v] h k:=by
 refine w44 (n:=1) Bg (g44 ?_)
 unfold An0
 rcases Classical.em (v=.Cm∧s=[]) with en|en
 · obtain⟨rfl,rfl⟩:=en
   rw[A1m,Uu,Bn]
   exact Dp rfl hk
 match d,hr with
 |0,hr=>exact absurd hr en
 |d+1,.inl hr=>exact absurd hr en
 |d+1,.inr ⟨q,hi,e,hq,hh,hc⟩=>
  subst e
  rw[Awa,Uu,Bn]
  refine Cp rfl ?_
  rw[Am,Ad,Ae]
  rcases hc with hc|⟨qa,b,s1,s2,hc,_⟩
  · refine hc.ld1 (j:=3) (by show 3<5;decide) ?_
    show asI .i64 (.int .i64 (.ofNat s.length)) _
    rw[Bj];exact hk
  · refine hc.ld1 (j:=3) (by show 3<5;decide) ?_
    show asI .i64 (.int .i64 (.ofNat s.length)) _
    rw[Bj];exact hk
theorem A2b{d:Nat}{h:H}{v:AV}{s:List UInt8}{k:KV}(hr:Eb d h v s)(hk:∀hi:Nat,hi≤d→k (.int .i64 (.ofNat hi)) h):W1 (.func 100) [v] h k:=by
 refine Bcp (n:=1) Bg (Bn0 ?_)
 unfold Afa
 rcases Classical.em (v=.Cm∧s=[]) with en|en
 · obtain⟨rfl,rfl⟩:=en
   rw[A1m,Uu,Bn]
   exact Dp rfl (hk 0 (Nat.zero_le _))
 match d,hr with
 |0,hr=>exact absurd hr en
 |d+1,.inl hr=>exact absurd hr en
 |d+1,.inr ⟨q,hi,e,hq,hh,hc⟩=>
  subst e
  rw[Awa,Uu,Bn]
  refine Cp rfl ?_
  rw[Am,Ad,Ae]
  rcases hc with hc|⟨qa,b,s1,s2,hc,_⟩
  · refine hc.ld1 (j:=4) (by show 4<5;decide) ?_
    show asI .i64 (.int .i64 (.ofNat hi)) _
    rw[Bj];exact hk hi hh
  · refine hc.ld1 (j:=4) (by show 4<5;decide) ?_
    show asI .i64 (.int .i64 (.ofNat hi)) _
    rw[Bj];exact hk hi hh
def rz:List AV:=(Hz 180).zero.drop 5
theorem Bfm(l c:Nat)(n m:Int)(h:H):Ax env (env.ty 180) [(0,.str l c),(3,.int .i64 n),(4,.int .i64 m)] h=some (.agg ([.str l c,.Cm,.Cm,.int .i64 n,.int .i64 m]++rz),h):=by kernel_rfl
theorem A82(q r:P)(n m:Int)(h:H):Ax env (env.ty 180) [(1,.ptr q 0),(2,.ptr r 0),(3,.int .i64 n),(4,.int .i64 m)] h=some (.agg ([.str 0 0,.ptr q 0,.ptr r 0,.int .i64 n,.int .i64 m]++rz),h):=by kernel_rfl
theorem A83(q:P)(n m:Int)(h:H):Ax env (env.ty 180) [(1,.ptr q 0),(2,.Cm),(3,.int .i64 n),(4,.int .i64 m)] h=some (.agg ([.str 0 0,.ptr q 0,.Cm,.int .i64 n,.int .i64 m]++rz),h):=by kernel_rfl
theorem Eb.v:∀{d:Nat}{h:H}{v:AV}{s:List UInt8},Eb d h v s→v=.Cm∨∃q,v=.ptr q 0
 |0,_,_,_,hr=>.inl hr.1
 |_+1,_,_,_,.inl hr=>.inl hr.1
 |_+1,_,_,_,.inr ⟨q,_,e,_⟩=>.inr ⟨q,e⟩
theorem Bfl{d:Nat}{b:AV}{h':H}{s:List UInt8}(hb:Eb d h' b s)(q:P)(n m:Int)(h:H):Ax env (env.ty 180) [(1,.ptr q 0),(2,b),(3,.int .i64 n),(4,.int .i64 m)] h=some (.agg ([.str 0 0,.ptr q 0,b,.int .i64 n,.int .i64 m]++rz),h):=by
 rcases hb.v with rfl|⟨r,rfl⟩
 · exact A83 q n m h
 · exact A82 q r n m h
theorem Bfn(h:H):Ax env (env.ty 180) [] h=some (.agg ([.str 0 0,.Cm,.Cm,.int .i64 (.ofNat 0),.int .i64 (.ofNat 0)]++rz),h):=by kernel_rfl
theorem Fu{l:List AV}{K:List AV→Prop}:asG (.agg l) K=K l:=rfl
theorem c75{s:List UInt8}{h:H}{k:KV}(hk:∀h' v,Exh h h'→Eb 1 h' v s→(s≠[]→∃q,v=.ptr q 0)→k v h'):W1 (.func 75) [S s] h k:=by
 refine w75 (n:=1) Bg (g75 ?_)
 unfold Am0
 rw[Wh]
 refine Br (fun e=>?_) (fun e=>?_)
 · have e:s=[]:=of_decide_eq_true e
   exact hk h .Cm .refl (.inl ⟨rfl,e⟩) fun q=>absurd e q
 · rw[Bfm,Ad,Fu]
   refine Ft (by simp) (Cy ?_)
   exact hk _ _ .new (.inr ⟨_,1,rfl,by rw[Bf];omega,Nat.le_refl _,.inl AtP.newRow.pre⟩) fun _=>⟨_,rfl⟩
theorem c76{d:Nat}(hd:d≤1000){h:H}{q:P}{b:AV}{s1 s2:List UInt8}{k:KV}(ha:Eb d h (.ptr q 0) s1)(hb:Eb d h b s2)(hs:s1≠[])(hl:s1.length+s2.length≤1000000)(hk:∀h' q',Exh h h'→Eb (d+1) h' (.ptr q' 0) (s1++s2)→k (.ptr q' 0) h'):W1 (.func 76) [.ptr q 0,b] h k:=by
 refine w76 (n:=1) Bg (g76 ?_)
 unfold Amz
 refine c44 ha ?_
 rw[Bj]
 refine c44 hb ?_
 rw[Bj]
 refine Bw (by omega) ?_
 refine A2b ha fun h1 l1=>?_
 rw[Bj]
 refine A2b hb fun h2 l2=>?_
 rw[Bj]
 have hm:∃m,m≤d∧(Ar env .max [3,3] [.int .i64 (.ofNat h1),.int .i64 (.ofNat h2)] h:Option (AV×H))=some (.int .i64 (.ofNat m),h):=by
  have e:(Ar env .max [3,3] [.int .i64 (.ofNat h1),.int .i64 (.ofNat h2)] h:Option (AV×H))=some (.int .i64 (Bool.rec (Int.ofNat h1) (Int.ofNat h2) (Ca (.ofNat h1) (.ofNat h2))),h):=rfl
  rw[e]
  cases Ca (.ofNat h1) (.ofNat h2) with
  |true=>exact⟨h2,l2,rfl⟩
  |false=>exact⟨h1,l1,rfl⟩
 obtain⟨m,lm,em⟩:=hm
 rw[em,Ad,Bj]
 refine Bw (by omega) ?_
 rw[Bfl hb,Ad,Fu]
 refine Ft (by simp) (Cy ?_)
 have x:Exh h (h.new (rowOf 180 ([.str 0 0,.ptr q 0,b,.int .i64 (Int.ofNat (s1.length+s2.length)),.int .i64 (Int.ofNat (1+m))]++rz))):=.new
 refine hk _ _ x (.inr ⟨_,1+m,rfl,by rw[Bf];omega,by omega,.inr ⟨q,b,s1,s2,?_,rfl,hs,ha.ext x,hb.ext x⟩⟩)
 rw[List.length_append]
 exact AtP.newRow.pre
theorem c51:∀(d:Nat),d≤100→∀{s:List UInt8}{h:H}{k:KV},s.length≤256*2^d→s.length≤1000000→(∀h' v,Exh h h'→Eb (d+1) h' v s→(s≠[]→∃q,v=.ptr q 0)→k v h')→W1 (.func 51) [S s] h k
 |d,hd,s,h,k,hs,hl,hk=>by
  refine w51 (n:=1) Bg (g51 ?_)
  unfold Anr
  rw[show Ef (Int.ofNat s.length) (Int.ofNat 256)=decide (s.length≤256) from ile _ _]
  refine Br (fun e=>?_) (fun e=>?_)
  · refine c75 fun h' v x hr hp=>hk h' v x ?_ hp
    have up:∀n,Eb (n+1) h' v s:=fun n=>by
     induction n with
     |zero=>exact hr
     |succ n ih=>exact ih.up
    exact up d
  · have e:¬s.length≤256:=of_decide_eq_false e
    match d,hd,hs with
    |0,_,hs=>exact absurd (by simpa using hs) e
    |d+1,hd,hs=>
     rw[Nat.pow_succ] at hs
     have e2:Az6 .i64 (Int.ofNat s.length) (Int.ofNat 2)=fun K=>fI (wrap .i64 (Int.ofNat (s.length / 2))) K:=rfl
     rw[e2]
     show fI (wrap .i64 (Int.ofNat (s.length / 2))) _
     rw[Pu (by omega),Gp]
     refine Gu (Alb (by omega) ?_)
     refine Gu (Alc (by omega) ?_)
     have l1:(s.take (s.length / 2)).length=s.length / 2:=by rw[List.length_take];omega
     have l2:(s.drop (s.length / 2)).length=s.length-s.length / 2:=by rw[List.length_drop]
     have n1:s.take (s.length / 2)≠[]:=fun q=>by rw[q] at l1;simp at l1;omega
     refine c51 d (by omega) (by omega) (by omega) fun h1 v1 x1 r1 p1=>?_
     refine c51 d (by omega) (by omega) (by omega) fun h2 v2 x2 r2 _=>?_
     obtain⟨q1,rfl⟩:=p1 n1
     refine c76 (by omega) (r1.ext x2) r2 n1 (by omega) fun h3 q3 x3 r3=>?_
     rw[List.take_append_drop] at r3
     exact hk h3 _ ((x1.trans x2).trans x3) r3 fun _=>⟨_,rfl⟩
theorem c27{s:List UInt8}(hl:s.length≤2048){h:H}{k:KV}(hk:∀h' q,Exh h h'→Eb 4 h' (.ptr q 0) s→k (.tuple [.ptr q 0,.int .i64 (Int.ofNat 0)]) h'):W1 (.func 27) [S s] h k:=by
 refine w27 (n:=1) Bg (g27 ?_)
 unfold Aoo
 rw[show Ca (Int.ofNat 65536) (Int.ofNat s.length)=decide (65536<s.length) from ilt _ _]
 refine Cp (decide_eq_false (by omega)) ?_
 refine c51 3 (by decide) (by omega) (by omega) fun h1 v1 x1 r1 p1=>?_
 refine w50 (n:=1) Bg (g50 ?_)
 unfold Ans
 by_cases hs:s=[]
 · have hv:v1=.Cm∨∃q,v1=.ptr q 0:=by
    rcases r1 with⟨e,_⟩|⟨q,_,e,_⟩
    · exact .inl e
    · exact .inr ⟨q,e⟩
   rcases hv with rfl|⟨q,rfl⟩
   · rw[A1m,Uu,Bn]
     refine Dp rfl ?_
     rw[Bfn,Ad,Fu]
     refine Ft (by simp) (Cy ?_)
     subst hs
     exact hk _ _ (x1.trans .new) (.inr ⟨_,0,rfl,by rw[Bf];omega,Nat.zero_le _,.inl AtP.newRow.pre⟩)
   · rw[Awa,Uu,Bn]
     exact Cp rfl (hk _ _ x1 r1)
 · obtain⟨q,rfl⟩:=p1 hs
   rw[Awa,Uu,Bn]
   exact Cp rfl (hk _ _ x1 r1)
theorem c70{b:P}{hE:H}:∀(d:Nat){h:H}{v:AV}{s acc:List UInt8}{k:KV},Eb d hE v s→hE.next.nat≤b.nat→b.nat<h.next.nat→Exh hE h→Tx (b.nat+1) h b acc→acc.length+s.length≤1000000→(∀w h',Exh hE h'→Tx (b.nat+1) h' b (acc++s)→k w h')→W1 (.func 70) [v,.func (.func 71) [] [.ptr b 0]] h k
 |d,h,v,s,acc,k,hr,hb0,hb1,hx,hb,hl,hk=>by
  refine w70 (n:=1) Bg (g70 ?_)
  unfold Am5
  refine c44 (hr.ext hx) ?_
  rw[Bj,show Bx (Int.ofNat s.length) (Int.ofNat 0)=decide (s.length=0) from Wx _ _]
  refine Br (fun e=>?_) (fun e=>?_)
  · have e:s=[]:=List.eq_nil_of_length_eq_zero (of_decide_eq_true e)
    subst e
    exact hk _ _ hx (by rw[List.append_nil];exact hb)
  · have e:¬s.length=0:=of_decide_eq_false e
    have hs:s≠[]:=fun q=>e (by rw[q];rfl)
    match d,hr with
    |0,hr=>exact absurd hr.2 hs
    |d+1,.inl hr=>exact absurd hr.2 hs
    |d+1,.inr ⟨q,hi,e,hq,hh,hc⟩=>
     subst e
     have hq':q.nat<h.next.nat:=Nat.lt_of_lt_of_le hq hx.1
     rw[Am,Ad,Ae]
     rcases hc with hc|⟨qa,b2,s1,s2,hc,es,en,r1,r2⟩
     · have hc:=hc.ext hx hq
       refine hc.ld1 (j:=1) (by show 1<5;decide) ?_
       show oV (Hh env .eql 80 .Cm .Cm) _
       rw[A1m,Uu,Bn]
       refine Dp rfl ?_
       rw[Am,Ad,Ae]
       refine hc.ld1 (j:=0) (by show 0<5;decide) ?_
       show asS (S s) _
       rw[Eg]
       show W1 (.func 71) [S s,.ptr b 0] h _
       refine w71 (n:=1) Bg (g71 ?_)
       unfold Am4
       refine Bop hb (by omega) (by omega) fun w h1 b1 f1=>?_
       refine hk _ _ ⟨by have:=f1.1;have:=hx.1;omega,fun c hcc=>?_⟩ b1
       rw[f1.2 c (Nat.lt_of_lt_of_le hcc hx.1) (fun e=>by subst e;omega) (.inl (by omega)),hx.2 c hcc]
     · have hc':=hc.ext hx hq
       subst es
       rw[List.length_append] at hl
       refine hc'.ld1 (j:=1) (by show 1<5;decide) ?_
       show oV (Hh env .eql 80 (.ptr qa 0) .Cm) _
       rw[Awa,Uu,Bn]
       refine Cp rfl ?_
       rw[Am,Ad,Ae]
       refine hc'.ld1 (j:=1) (by show 1<5;decide) ?_
       show W1 (.func 70) [.ptr qa 0,.func (.func 71) [] [.ptr b 0]] h _
       refine c70 d r1 hb0 hb1 hx hb (by omega) fun w1 h1 x1 b1=>?_
       have hb2:b.nat<h1.next.nat:=by obtain⟨_,_,q,_⟩:=b1;exact q
       rw[Am,Ad,Ae]
       refine(hc.ext x1 hq).ld1 (j:=2) (by show 2<5;decide) ?_
       show W1 (.func 70) [b2,.func (.func 71) [] [.ptr b 0]] h1 _
       refine c70 d r2 hb0 hb2 x1 b1 (by rw[List.length_append];omega) fun w2 h2 x2 b3=>?_
       exact hk _ _ x2 (by rw[←List.append_assoc];exact b3)
theorem c46{d:Nat}{h:H}{v:AV}{s:List UInt8}{k:KV}(hr:Eb d h v s)(hl:s.length≤1000000)(hk:∀h',Exh h h'→k (S s) h'):W1 (.func 46) [v] h k:=by
 refine w46 (n:=1) Bg (g46 ?_)
 unfold Anz
 refine Cy ?_
 have x0:Exh h (h.new Xs):=.new
 refine c70 d (hE:=h) (b:=h.next) hr (Nat.le_refl _) (by rw[Bf];omega) x0 (Tx.new _ h) (by simpa using hl) fun w h1 x1 b1=>?_
 refine Bax b1 (by simp;omega) fun h2 x2=>?_
 rw[Eg,List.nil_append]
 refine hk h2 ⟨by have:=x1.1;have:=x2.1;omega,fun c hc=>?_⟩
 rw[x2.2 c (Nat.lt_of_lt_of_le hc x1.1) (.inl (by omega)),x1.2 c hc]
end Go.Den
