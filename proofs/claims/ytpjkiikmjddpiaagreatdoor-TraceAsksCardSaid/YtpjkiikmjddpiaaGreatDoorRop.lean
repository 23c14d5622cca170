/-
  A part of the proof: ropes: how a text is kept, and told.
-/
import Derived.Test.YtpjkiikmjddpiaaGreatDoorMak
namespace Go.Den
open Go.RowKit
set_option maxRecDepth 100000
/-! ### What a rope is -/
theorem AtP.pre{h:H}{q:P}{o:Nat}{a b:List AV}(ha:AtP h q o (a++b)):AtP h q o a:=by
  obtain⟨c,m,h1,h2,h3⟩:=ha
  rw[List.length_append] at h2
  refine⟨c,m,h1,by omega,fun j hj=>?_⟩
  rw[h3 j (by rw[List.length_append];omega),List.getElem_append_left hj]
noncomputable def rcs (s:List UInt8) (a b:AV) (n hi:Nat):List AV:=[S s,a,b,.int .i64 (.ofNat n),.int .i64 (.ofNat hi)]
noncomputable def RopeP:Nat→H→AV→List UInt8→Prop
  |0,_,v,s=>v=.nilp∧s=[]
  |d+1,h,v,s=>(v=.nilp∧s=[])∨∃q hi,v=.ptr q 0∧q.nat<h.next.nat∧hi≤d+1∧
      (AtP h q 0 (rcs s .nilp .nilp s.length hi)∨∃qa b s1 s2,AtP h q 0 (rcs [] (.ptr qa 0) b s.length hi)∧s=s1++s2∧s1≠[]∧RopeP d h (.ptr qa 0) s1∧RopeP d h b s2)
theorem RopeP.ext:∀{d:Nat}{h h':H}{v:AV}{s:List UInt8},RopeP d h v s→Exh h h'→RopeP d h' v s
  |0,_,_,_,_,hr,_=>hr
  |d+1,h,h',v,s,hr,x=>by
    rcases hr with hr|⟨q,hi,e,hq,hh,hc⟩
    · exact .inl hr
    · refine .inr ⟨q,hi,e,Nat.lt_of_lt_of_le hq x.1,hh,?_⟩
      rcases hc with hc|⟨qa,b,s1,s2,hc,e2,e3,h1,h2⟩
      · exact .inl (hc.ext x hq)
      · exact .inr ⟨qa,b,s1,s2,hc.ext x hq,e2,e3,RopeP.ext h1 x,RopeP.ext h2 x⟩
theorem RopeP.up:∀{d:Nat}{h:H}{v:AV}{s:List UInt8},RopeP d h v s→RopeP (d+1) h v s
  |0,_,_,_,hr=>.inl hr
  |d+1,h,v,s,hr=>by
    rcases hr with hr|⟨q,hi,e,hq,hh,hc⟩
    · exact .inl hr
    · refine .inr ⟨q,hi,e,hq,by omega,?_⟩
      rcases hc with hc|⟨qa,b,s1,s2,hc,e2,e3,h1,h2⟩
      · exact .inl hc
      · exact .inr ⟨qa,b,s1,s2,hc,e2,e3,RopeP.up h1,RopeP.up h2⟩
theorem eqRp(q:P):binA env .eql 88 (.ptr q 0) .nilp=some (.bool false):=by kernel_rfl
theorem eqRn:binA env .eql 88 .nilp .nilp=some (.bool true):=by kernel_rfl
theorem oV_b{b:Bool}{K:AV→Prop}:oV (some (.bool b)) K=K (.bool b):=rfl
/-! ### Its length, its depth -/
theorem c41{d:Nat}{h:H}{v:AV}{s:List UInt8}{k:KV}(hr:RopeP d h v s)(hk:k (.int .i64 (.ofNat s.length)) h):W1 (.func 41) [v] h k:=by
  refine w41 (n:=1) sw_ok (g41 ?_)
  unfold s41_0
  rcases Classical.em (v=.nilp∧s=[]) with en|en
  · obtain⟨rfl,rfl⟩:=en
    rw[eqRn,oV_b,asB_b]
    exact cnd_t rfl hk
  match d,hr with
  |0,hr=>exact absurd hr en
  |d+1,.inl hr=>exact absurd hr en
  |d+1,.inr ⟨q,hi,e,hq,hh,hc⟩=>
    subst e
    rw[eqRp,oV_b,asB_b]
    refine cnd_f rfl ?_
    rw[exNil_p,oK_some,fAddr_i]
    rcases hc with hc|⟨qa,b,s1,s2,hc,_⟩
    · refine hc.ld1 (j:=3) (by show 3<5;decide) ?_
      show asI .i64 (.int .i64 (.ofNat s.length)) _
      rw[asI_k];exact hk
    · refine hc.ld1 (j:=3) (by show 3<5;decide) ?_
      show asI .i64 (.int .i64 (.ofNat s.length)) _
      rw[asI_k];exact hk
theorem c108{d:Nat}{h:H}{v:AV}{s:List UInt8}{k:KV}(hr:RopeP d h v s)(hk:∀hi:Nat,hi≤d→k (.int .i64 (.ofNat hi)) h):W1 (.func 108) [v] h k:=by
  refine w108 (n:=1) sw_ok (g108 ?_)
  unfold s108_0
  rcases Classical.em (v=.nilp∧s=[]) with en|en
  · obtain⟨rfl,rfl⟩:=en
    rw[eqRn,oV_b,asB_b]
    exact cnd_t rfl (hk 0 (Nat.zero_le _))
  match d,hr with
  |0,hr=>exact absurd hr en
  |d+1,.inl hr=>exact absurd hr en
  |d+1,.inr ⟨q,hi,e,hq,hh,hc⟩=>
    subst e
    rw[eqRp,oV_b,asB_b]
    refine cnd_f rfl ?_
    rw[exNil_p,oK_some,fAddr_i]
    rcases hc with hc|⟨qa,b,s1,s2,hc,_⟩
    · refine hc.ld1 (j:=4) (by show 4<5;decide) ?_
      show asI .i64 (.int .i64 (.ofNat hi)) _
      rw[asI_k];exact hk hi hh
    · refine hc.ld1 (j:=4) (by show 4<5;decide) ?_
      show asI .i64 (.int .i64 (.ofNat hi)) _
      rw[asI_k];exact hk hi hh
/-! ### How it is made -/
noncomputable def rz:List AV:=(eiOf 157).zero.drop 5
theorem exBr1(l c:Nat)(n m:Int)(h:H):exBuild env (env.ty 157) [(0,.str l c),(3,.int .i64 n),(4,.int .i64 m)] h=some (.agg ([.str l c,.nilp,.nilp,.int .i64 n,.int .i64 m]++rz),h):=by kernel_rfl
theorem exBr2p(q r:P)(n m:Int)(h:H):exBuild env (env.ty 157) [(1,.ptr q 0),(2,.ptr r 0),(3,.int .i64 n),(4,.int .i64 m)] h=some (.agg ([.str 0 0,.ptr q 0,.ptr r 0,.int .i64 n,.int .i64 m]++rz),h):=by kernel_rfl
theorem exBr2n(q:P)(n m:Int)(h:H):exBuild env (env.ty 157) [(1,.ptr q 0),(2,.nilp),(3,.int .i64 n),(4,.int .i64 m)] h=some (.agg ([.str 0 0,.ptr q 0,.nilp,.int .i64 n,.int .i64 m]++rz),h):=by kernel_rfl
theorem RopeP.v:∀{d:Nat}{h:H}{v:AV}{s:List UInt8},RopeP d h v s→v=.nilp∨∃q,v=.ptr q 0
  |0,_,_,_,hr=>.inl hr.1
  |_+1,_,_,_,.inl hr=>.inl hr.1
  |_+1,_,_,_,.inr ⟨q,_,e,_⟩=>.inr ⟨q,e⟩
theorem exBr2{d:Nat}{b:AV}{h':H}{s:List UInt8}(hb:RopeP d h' b s)(q:P)(n m:Int)(h:H):exBuild env (env.ty 157) [(1,.ptr q 0),(2,b),(3,.int .i64 n),(4,.int .i64 m)] h=some (.agg ([.str 0 0,.ptr q 0,b,.int .i64 n,.int .i64 m]++rz),h):=by
  rcases hb.v with rfl|⟨r,rfl⟩
  · exact exBr2n q n m h
  · exact exBr2p q r n m h
theorem exBr0(h:H):exBuild env (env.ty 157) [] h=some (.agg ([.str 0 0,.nilp,.nilp,.int .i64 (.ofNat 0),.int .i64 (.ofNat 0)]++rz),h):=by kernel_rfl
theorem asG_g{l:List AV}{K:List AV→Prop}:asG (.agg l) K=K l:=rfl
theorem c83{s:List UInt8}{h:H}{k:KV}(hk:∀h' v,Exh h h'→RopeP 1 h' v s→(s≠[]→∃q,v=.ptr q 0)→k v h'):W1 (.func 83) [S s] h k:=by
  refine w83 (n:=1) sw_ok (g83 ?_)
  unfold s83_0
  rw[strEq_nil]
  refine cnd_i (fun e=>?_) (fun e=>?_)
  · have e:s=[]:=of_decide_eq_true e
    exact hk h .nilp .refl (.inl ⟨rfl,e⟩) fun q=>absurd e q
  · rw[exBr1,oK_some,asG_g]
    refine chk_i (by simp) (newK_i ?_)
    exact hk _ _ .new (.inr ⟨_,1,rfl,by rw[next_new];omega,Nat.le_refl _,.inl AtP.newRow.pre⟩) fun _=>⟨_,rfl⟩
theorem c84{d:Nat}(hd:d≤1000){h:H}{q:P}{b:AV}{s1 s2:List UInt8}{k:KV}(ha:RopeP d h (.ptr q 0) s1)(hb:RopeP d h b s2)(hs:s1≠[])(hl:s1.length+s2.length≤1000000)(hk:∀h' q',Exh h h'→RopeP (d+1) h' (.ptr q' 0) (s1++s2)→k (.ptr q' 0) h'):W1 (.func 84) [.ptr q 0,b] h k:=by
  refine w84 (n:=1) sw_ok (g84 ?_)
  unfold s84_0
  refine c41 ha ?_
  rw[asI_k]
  refine c41 hb ?_
  rw[asI_k]
  refine fIadd (by omega) ?_
  refine c108 ha fun h1 l1=>?_
  rw[asI_k]
  refine c108 hb fun h2 l2=>?_
  rw[asI_k]
  have hm:∃m,m≤d∧(builtinA env .max [3,3] [.int .i64 (.ofNat h1),.int .i64 (.ofNat h2)] h:Option (AV×H))=some (.int .i64 (.ofNat m),h):=by
    have e:(builtinA env .max [3,3] [.int .i64 (.ofNat h1),.int .i64 (.ofNat h2)] h:Option (AV×H))=some (.int .i64 (Bool.rec (Int.ofNat h1) (Int.ofNat h2) (iblt (.ofNat h1) (.ofNat h2))),h):=rfl
    rw[e]
    cases iblt (.ofNat h1) (.ofNat h2) with
    |true=>exact⟨h2,l2,rfl⟩
    |false=>exact⟨h1,l1,rfl⟩
  obtain⟨m,lm,em⟩:=hm
  rw[em,oK_some,asI_k]
  refine fIadd (by omega) ?_
  rw[exBr2 hb,oK_some,asG_g]
  refine chk_i (by simp) (newK_i ?_)
  have x:Exh h (h.new (rowOf 157 ([.str 0 0,.ptr q 0,b,.int .i64 (Int.ofNat (s1.length+s2.length)),.int .i64 (Int.ofNat (1+m))]++rz))):=.new
  refine hk _ _ x (.inr ⟨_,1+m,rfl,by rw[next_new];omega,by omega,.inr ⟨q,b,s1,s2,?_,rfl,hs,ha.ext x,hb.ext x⟩⟩)
  rw[List.length_append]
  exact AtP.newRow.pre
theorem c61:∀(d:Nat),d≤100→∀{s:List UInt8}{h:H}{k:KV},s.length≤256*2^d→s.length≤1000000→(∀h' v,Exh h h'→RopeP (d+1) h' v s→(s≠[]→∃q,v=.ptr q 0)→k v h')→W1 (.func 61) [S s] h k
  |d,hd,s,h,k,hs,hl,hk=>by
    refine w61 (n:=1) sw_ok (g61 ?_)
    unfold s61_0
    rw[show ible (Int.ofNat s.length) (Int.ofNat 256)=decide (s.length≤256) from ile _ _]
    refine cnd_i (fun e=>?_) (fun e=>?_)
    · refine c83 fun h' v x hr hp=>hk h' v x ?_ hp
      have up:∀n,RopeP (n+1) h' v s:=fun n=>by
        induction n with
        |zero=>exact hr
        |succ n ih=>exact ih.up
      exact up d
    · have e:¬s.length≤256:=of_decide_eq_false e
      match d,hd,hs with
      |0,_,hs=>exact absurd (by simpa using hs) e
      |d+1,hd,hs=>
        rw[Nat.pow_succ] at hs
        have e2:quoI .i64 (Int.ofNat s.length) (Int.ofNat 2)=fun K=>fI (wrap .i64 (Int.ofNat (s.length / 2))) K:=rfl
        rw[e2]
        show fI (wrap .i64 (Int.ofNat (s.length / 2))) _
        rw[wrapN (by omega),fI_eq]
        refine natI_i (cutS_t (by omega) ?_)
        refine natI_i (cutS_d (by omega) ?_)
        have l1:(s.take (s.length / 2)).length=s.length / 2:=by rw[List.length_take];omega
        have l2:(s.drop (s.length / 2)).length=s.length-s.length / 2:=by rw[List.length_drop]
        have n1:s.take (s.length / 2)≠[]:=fun q=>by rw[q] at l1;simp at l1;omega
        refine c61 d (by omega) (by omega) (by omega) fun h1 v1 x1 r1 p1=>?_
        refine c61 d (by omega) (by omega) (by omega) fun h2 v2 x2 r2 _=>?_
        obtain⟨q1,rfl⟩:=p1 n1
        refine c84 (by omega) (r1.ext x2) r2 n1 (by omega) fun h3 q3 x3 r3=>?_
        rw[List.take_append_drop] at r3
        exact hk h3 _ ((x1.trans x2).trans x3) r3 fun _=>⟨_,rfl⟩
/-- a text as a rope -/
theorem c36{s:List UInt8}(hl:s.length≤2048){h:H}{k:KV}(hk:∀h' q,Exh h h'→RopeP 4 h' (.ptr q 0) s→k (.tuple [.ptr q 0,.int .i64 (Int.ofNat 0)]) h'):W1 (.func 36) [S s] h k:=by
  refine w36 (n:=1) sw_ok (g36 ?_)
  unfold s36_0
  rw[show iblt (Int.ofNat 65536) (Int.ofNat s.length)=decide (65536<s.length) from ilt _ _]
  refine cnd_f (decide_eq_false (by omega)) ?_
  refine c61 3 (by decide) (by omega) (by omega) fun h1 v1 x1 r1 p1=>?_
  refine w60 (n:=1) sw_ok (g60 ?_)
  unfold s60_0
  by_cases hs:s=[]
  · have hv:v1=.nilp∨∃q,v1=.ptr q 0:=by
      rcases r1 with⟨e,_⟩|⟨q,_,e,_⟩
      · exact .inl e
      · exact .inr ⟨q,e⟩
    rcases hv with rfl|⟨q,rfl⟩
    · rw[eqRn,oV_b,asB_b]
      refine cnd_t rfl ?_
      rw[exBr0,oK_some,asG_g]
      refine chk_i (by simp) (newK_i ?_)
      subst hs
      exact hk _ _ (x1.trans .new) (.inr ⟨_,0,rfl,by rw[next_new];omega,Nat.zero_le _,.inl AtP.newRow.pre⟩)
    · rw[eqRp,oV_b,asB_b]
      exact cnd_f rfl (hk _ _ x1 r1)
  · obtain⟨q,rfl⟩:=p1 hs
    rw[eqRp,oV_b,asB_b]
    exact cnd_f rfl (hk _ _ x1 r1)
/-! ### Its text -/
/-- each leaf is written -/
theorem c67{b:P}{hE:H}:∀(d:Nat){h:H}{v:AV}{s acc:List UInt8}{k:KV},RopeP d hE v s→hE.next.nat≤b.nat→b.nat<h.next.nat→Exh hE h→BldN (b.nat+1) h b acc→acc.length+s.length≤1000000→(∀w h',Exh hE h'→BldN (b.nat+1) h' b (acc++s)→k w h')→W1 (.func 67) [v,.func (.func 68) [] [.ptr b 0]] h k
  |d,h,v,s,acc,k,hr,hb0,hb1,hx,hb,hl,hk=>by
    refine w67 (n:=1) sw_ok (g67 ?_)
    unfold s67_0
    refine c41 (hr.ext hx) ?_
    rw[asI_k,show ibeq (Int.ofNat s.length) (Int.ofNat 0)=decide (s.length=0) from ieqN _ _]
    refine cnd_i (fun e=>?_) (fun e=>?_)
    · have e:s=[]:=List.eq_nil_of_length_eq_zero (of_decide_eq_true e)
      subst e
      exact hk _ _ hx (by rw[List.append_nil];exact hb)
    · have e:¬s.length=0:=of_decide_eq_false e
      have hs:s≠[]:=fun q=>e (by rw[q];rfl)
      match d,hr with
      |0,hr=>exact absurd hr.2 hs
      |d+1,.inl hr=>exact absurd hr.2 hs
      |d+1,.inr ⟨q,hi,e,hq,hh,hc⟩=>
        subst e
        have hq':q.nat<h.next.nat:=Nat.lt_of_lt_of_le hq hx.1
        rw[exNil_p,oK_some,fAddr_i]
        rcases hc with hc|⟨qa,b2,s1,s2,hc,es,en,r1,r2⟩
        · have hc:=hc.ext hx hq
          refine hc.ld1 (j:=1) (by show 1<5;decide) ?_
          show oV (binA env .eql 88 .nilp .nilp) _
          rw[eqRn,oV_b,asB_b]
          refine cnd_t rfl ?_
          rw[exNil_p,oK_some,fAddr_i]
          refine hc.ld1 (j:=0) (by show 0<5;decide) ?_
          show asS (S s) _
          rw[asS_s]
          show W1 (.func 68) [S s,.ptr b 0] h _
          refine w68 (n:=1) sw_ok (g68 ?_)
          unfold s68_0
          refine c69N hb (by omega) (by omega) fun w h1 b1 f1=>?_
          refine hk _ _ ⟨by have:=f1.1;have:=hx.1;omega,fun c hcc=>?_⟩ b1
          rw[f1.2 c (Nat.lt_of_lt_of_le hcc hx.1) (fun e=>by subst e;omega) (.inl (by omega)),hx.2 c hcc]
        · have hc':=hc.ext hx hq
          subst es
          rw[List.length_append] at hl
          refine hc'.ld1 (j:=1) (by show 1<5;decide) ?_
          show oV (binA env .eql 88 (.ptr qa 0) .nilp) _
          rw[eqRp,oV_b,asB_b]
          refine cnd_f rfl ?_
          rw[exNil_p,oK_some,fAddr_i]
          refine hc'.ld1 (j:=1) (by show 1<5;decide) ?_
          show W1 (.func 67) [.ptr qa 0,.func (.func 68) [] [.ptr b 0]] h _
          refine c67 d r1 hb0 hb1 hx hb (by omega) fun w1 h1 x1 b1=>?_
          have hb2:b.nat<h1.next.nat:=by obtain⟨_,_,q,_⟩:=b1;exact q
          rw[exNil_p,oK_some,fAddr_i]
          refine(hc.ext x1 hq).ld1 (j:=2) (by show 2<5;decide) ?_
          show W1 (.func 67) [b2,.func (.func 68) [] [.ptr b 0]] h1 _
          refine c67 d r2 hb0 hb2 x1 b1 (by rw[List.length_append];omega) fun w2 h2 x2 b3=>?_
          exact hk _ _ x2 (by rw[←List.append_assoc];exact b3)
theorem c43{d:Nat}{h:H}{v:AV}{s:List UInt8}{k:KV}(hr:RopeP d h v s)(hl:s.length≤1000000)(hk:∀h',Exh h h'→k (S s) h'):W1 (.func 43) [v] h k:=by
  refine w43 (n:=1) sw_ok (g43 ?_)
  unfold s43_0
  refine newK_i ?_
  have x0:Exh h (h.new ob160):=.new
  refine c67 d (hE:=h) (b:=h.next) hr (Nat.le_refl _) (by rw[next_new];omega) x0 (BldN.new _ h) (by simpa using hl) fun w h1 x1 b1=>?_
  refine c66N b1 (by simp;omega) fun h2 x2=>?_
  rw[asS_s,List.nil_append]
  refine hk h2 ⟨by have:=x1.1;have:=x2.1;omega,fun c hc=>?_⟩
  rw[x2.2 c (Nat.lt_of_lt_of_le hc x1.1) (.inl (by omega)),x1.2 c hc]
end Go.Den
