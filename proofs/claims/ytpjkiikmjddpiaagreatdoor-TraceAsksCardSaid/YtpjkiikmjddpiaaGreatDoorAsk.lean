/-
  A part of the proof: the law: what is asked of tokens and files.
-/
import Derived.Test.YtpjkiikmjddpiaaGreatDoorOrg
namespace Go.Den
open Go.RowKit
set_option maxRecDepth 100000
theorem smp_cs{h:H}{x:TkA}(hx:SlE 5 h x.sv (sks x.st)):∀v∈x.cs,smp v:=by
  have hs:smp x.sv:=by
    rcases hx.sl with e|⟨q,o,n,z,t,e⟩
    · rw[e];exact .inr (.inr (.inr (.inl rfl)))
    · rw[e];exact .inr (.inr (.inr (.inr (.inl ⟨_,_,_,_,_,rfl⟩))))
  intro v hv
  unfold TkA.cs at hv
  simp only[List.mem_cons,List.not_mem_nil,or_false] at hv
  rcases hv with rfl|rfl|rfl|rfl|rfl|rfl|rfl|rfl
  · exact .inr (.inl ⟨_,_,rfl⟩)
  · exact .inl ⟨_,_,rfl⟩
  · exact .inr (.inr (.inl ⟨_,rfl⟩))
  · exact .inl ⟨_,_,rfl⟩
  · exact .inr (.inl ⟨_,_,rfl⟩)
  · exact .inr (.inl ⟨_,_,rfl⟩)
  · exact .inr (.inr (.inl ⟨_,rfl⟩))
  · exact hs
theorem smp_or(x:TkA):∀v∈orC x,smp v:=by
  intro v hv
  unfold orC at hv
  simp only[List.mem_cons,List.not_mem_nil,or_false] at hv
  rcases hv with rfl|rfl|rfl
  · exact .inl ⟨_,_,rfl⟩
  · exact .inr (.inl ⟨_,_,rfl⟩)
  · exact .inr (.inl ⟨_,_,rfl⟩)
theorem exB50n(h:H):exBuild env (env.ty 50) [(0,.nils)] h=some (.agg [.nils,.nils,.nils,.nils,.bool false],h):=by kernel_rfl
theorem exB50s(q:P)(o n z:Nat)(b:Bool)(h:H):exBuild env (env.ty 50) [(0,.slice q o n z b)] h=some (.agg [.slice q o n z b,.nils,.nils,.nils,.bool false],h):=by kernel_rfl
theorem exBres{sz:Nat}{h0:H}{v:AV}{L:List (List AV)}(hv:SlE sz h0 v L)(h:H):exBuild env (env.ty 50) [(0,v)] h=some (.agg [v,.nils,.nils,.nils,.bool false],h):=by
  rcases hv.sl with rfl|⟨q,o,n,z,t,rfl⟩
  · exact exB50n h
  · exact exB50s _ _ _ _ _ h
theorem strEq_self(l c:Nat):strEq l c l c=true:=strEq_r l c
section
variable{hB:H}{pT pF pV pm q0:P}{fs ls:List Fl}{ns:List (List UInt8)}{v:AV}{l:List TkA}{A:List UInt8}{F T:Int}{k:KV}
/-- what does not change -/
structure Ask(hB:H)(pT pF pV pm q0:P)(fs ls:List Fl)(ns:List (List UInt8))(v:AV)(l:List TkA)(A:List UInt8)(F T:Int):Prop where
  p:TabP hB pT pF pV fs
  d:TabD hB pm ls ns
  same:∀q,textOf fs q=textOf ls q
  sp:Sht fs
  sl:Sht ls
  tk:TkR hB v l
  hl:l.length≤1000
  hs:∀x∈l,x.st.length≤1000
  at0:AtP hB q0 0 [S A,.int .i64 F,.int .i64 T]
  nq:q0.nat<hB.next.nat
theorem c3_1(aw:∀(h:H)(k:KV),k (.bool true) h→W1 (.func 7) [] h k)(a:Ask hB pT pF pV pm q0 fs ls ns v l A F T)(hk:∀h,k (.bool true) h):∀(n i:Nat){h:H}{w:AV},3*(l.length-i)+3<n→i≤l.length→Exh hB h→BufN 3 1 hB.next.nat h w (ics (hits A F T l i))→(r3 W1 k n).a1 v (.ptr q0 0) (.ptr pT 0) (.ptr pm 0) w (Int.ofNat i) h
  |0,_,_,_,hh,_,_,_=>absurd hh (Nat.not_lt_zero _)
  |n+1,i,h,w,hh,hi,xx,hb=>by
    refine j3_1 ?_
    unfold s3_1
    rw[a.tk.1.len,tks_len,ilt]
    refine cnd_i (fun e=>?_) (fun e=>?_)
    · have e:i<l.length:=of_decide_eq_true e
      have e':i<(tks l).length:=by rw[tks_len];exact e
      have hs:=a.tk.2 _ (List.getElem_mem e)
      have hsl:=a.hs _ (List.getElem_mem e)
      obtain⟨m,rfl⟩:∃m,n=m+1:=⟨n-1,by omega⟩
      obtain⟨m,rfl⟩:∃m',m=m'+1:=⟨m-1,by omega⟩
      have el:∀{K:AV→Prop}(_:∀q o,q.nat<hB.next.nat→AtP hB q o l[i].cs→K (.ptr q o)),natI (Int.ofNat i) fun m=>elemA 8 m v K:=fun hK=>natI_go ((a.tk.1.rd e').elem e' fun q o hq _ ha=>by
        rw[tks_get e] at ha
        exact hK q o hq ha)
      refine el fun q1 o1 n1 a1=>?_
      refine(a1.ext xx n1).ldn rfl ?_
      refine c9 (a.p.ext xx) a.sp fun h1 x1=>?_
      have X1:=xx.trans x1
      rw[ext_0,asS_s,ext_1,asB_b]
      refine el fun q2 o2 n2 a2=>?_
      rw[fAddr_i]
      refine(a2.ext X1 n2).ldnS (j:=3) (c:=3) (by show 3+3≤8;decide) ?_
      show W1 (.func 10) [.ptr pm 0,.agg [S l[i].fl,.int .i64 l[i].f,.int .i64 l[i].t]] h1 _
      refine c10 (a.d.ext X1) a.sl fun h2 x2=>?_
      have X2:=X1.trans x2
      rw[spA_eq,←a.same,ext_0,asS_s,ext_1,asB_b]
      refine el fun q3 o3 n3 a3=>?_
      rw[fAddr_i]
      refine(a3.ext X2 n3).ldnS (j:=3) (c:=3) (by show 3+3≤8;decide) ?_
      refine newK_i ?_
      refine new_cpr (e:=25) (zs:=[(.str 0 0),(.int .i64 (Int.ofNat 0)),(.int .i64 (Int.ofNat 0))]) (cs:=[S l[i].fl,.int .i64 l[i].f,.int .i64 l[i].t]) rfl rfl (by decide) fun h3 t3 x3 m3 at3 rw3=>?_
      have X3:=X2.trans x3
      refine el fun q4 o4 n4 a4=>?_
      rw[fAddr_i]
      refine(a4.ext X3 n4).ld1 (j:=7) (by show 7<8;decide) ?_
      show lenV l[i].sv _
      rw[hs.len,sks_len,show iblt (Int.ofNat 0) (Int.ofNat l[i].st.length)=decide (0<l[i].st.length) from ilt _ _]
      have nxt:∀h5,Exh hB h5→Exh h h5→h2.next.nat<h5.next.nat→AtP h5 h2.next 0 (orC l[i])→(r3 W1 k (m+1+1)).a2 v (.ptr q0 0) (.ptr pT 0) (.ptr pm 0) w (Int.ofNat i) ((spT fs l[i]).getD []).length (enc ((spT fs l[i]).getD [])) (spT fs l[i]).isSome ((spT fs l[i]).getD []).length (enc ((spT fs l[i]).getD [])) (spT fs l[i]).isSome (.ptr h2.next 0) h5:=fun h5 X5 x5 m5 at5=>by
        refine j3_2 ?_
        unfold s3_2
        rw[strEq_r]
        refine or_q (b:=false) (fun k' hk'=>?_) ?_
        · rw[neB,beqB_self,oV_b,asB_b];exact hk'
        refine or_i (fun _=>?_) (fun q=>by cases q)
        refine el fun q5 o5 n5 a5=>?_
        refine(a5.ext X5 n5).ldn rfl ?_
        refine el fun q6 o6 n6 a6=>?_
        refine(a6.ext X5 n6).ldn rfl ?_
        refine c11 (a.p.ext X5) a.sp (hs.ext X5) hsl fun h6 x6=>?_
        have X6:=X5.trans x6
        rw[asB_b]
        refine(a6.ext X6 n6).ldn rfl ?_
        refine eqC_agg (smp_cs hs) ?_
        refine c12 (a.d.ext X6) a.sl (hs.ext X6) hsl fun h7 x7=>?_
        have X7:=X6.trans x7
        have at7:=(at5.ext x6 m5).ext x7 (Nat.lt_of_lt_of_le m5 x6.1)
        have m7:h2.next.nat<h7.next.nat:=Nat.lt_of_lt_of_le m5 (Nat.le_trans x6.1 x7.1)
        rw[asB_b,←ckV_same a.same,neB,beqB_self,oV_b,asB_b]
        refine or_i (fun _=>?_) (fun q=>by cases q)
        refine el fun q8 o8 n8 a8=>?_
        refine(a8.ext X7 n8).ldn rfl ?_
        refine at7.ldn rfl ?_
        refine c13 (hs.ext X7) hsl fun h9 x9=>?_
        have X9:=X7.trans x9
        have at9:=at7.ext x9 m7
        refine at9.ldn rfl ?_
        refine eqC_agg (smp_or _) ?_
        show oV (binA env .neq 25 (.agg [S (orS l[i]).1,.int .i64 (orS l[i]).2.1,.int .i64 (orS l[i]).2.2]) (.agg [S (orS l[i]).1,.int .i64 (orS l[i]).2.1,.int .i64 (orS l[i]).2.2])) _
        rw[neSp_r,oV_b,asB_b]
        refine cnd_f rfl ?_
        have hb9:=hb.ext (((x5.trans x6).trans x7).trans x9)
        have hln:=hits_len (A:=A) (F:=F) (T:=T) (l:=l) (i:=i)
        have hll:=a.hl
        refine hit_go at9 (a.at0.ext X9 a.nq) ?_
        have next:∀{w':AV}{h':H},Exh hB h'→BufN 3 1 hB.next.nat h' w' (ics (hits A F T l (i+1)))→(r3 W1 k (m+1)).a3 v (.ptr q0 0) (.ptr pT 0) (.ptr pm 0) w' (Int.ofNat i) h':=fun x' b'=>by
          refine j3_3 ?_
          unfold s3_3
          exact fIadd (by omega) (c3_1 aw a hk m (i+1) (by omega) e x' b')
        refine cnd_i (fun q=>?_) (fun q=>?_)
        · refine app_int hb9 (by omega) X9.1 fun v4 h4 b4 k4=>?_
          refine next (k4.exh X9 (Nat.le_refl _)) ?_
          rw[hits_s e,if_pos q];exact b4
        · refine next X9 ?_
          rw[hits_s e,if_neg (by rw[q];decide),List.append_nil];exact hb9
      have xh3:=((x1.trans x2).trans x3)
      refine cnd_i (fun e0=>?_) (fun e0=>?_)
      · have e0:0<l[i].st.length:=of_decide_eq_true e0
        have e2:l[i].st.length-1<l[i].st.length:=by omega
        have e3:l[i].st.length-1<(sks l[i].st).length:=by rw[sks_len];exact e2
        refine el fun q5 o5 n5 a5=>?_
        rw[fAddr_i]
        refine(a5.ext X3 n5).ld1 (j:=7) (by show 7<8;decide) ?_
        refine fIsub e0 (by omega) ?_
        refine natI_go ((hs.rd e3).elem e3 fun q o hq _ ha=>?_)
        rw[sks_get e2] at ha
        rw[fAddr_i]
        refine(ha.ext X3 hq).ldnS (j:=1) (c:=3) (by show 1+3≤5;decide) ?_
        refine set_cp rw3 (cs:=orC l[i]) (by rfl) (by decide) ?_ |> (fun z=>by rw[orC_some e2] at z;exact z)
        intro o' a6
        exact nxt _ (exh_put X3 (Nat.le_trans xx.1 (Nat.le_trans x1.1 x2.1))) (exh_put xh3 (Nat.le_trans x1.1 x2.1)) (by rw[next_put];exact m3) a6
      · have e0:l[i].st=[]:=List.eq_nil_of_length_eq_zero (by have:=of_decide_eq_false e0;omega)
        exact nxt h3 X3 xh3 m3 (by rw[orC_none e0];exact at3)
    · have e:i=l.length:=by have:=of_decide_eq_false e;omega
      subst e
      rw[exBres a.tk.1,oK_some]
      refine(a.at0.ext xx a.nq).ldn rfl ?_
      refine c15 (a.tk.ext xx) ⟨a.hl,a.hs⟩ fun v1 h1 x1 b1=>?_
      refine c14 b1 (hb.ext x1).slr (Nat.le_trans hits_len (by have:=a.hl;omega)) ?_
      rw[asB_b]
      refine and_i (fun _=>?_) (fun q=>by cases q)
      refine aw _ _ ?_
      rw[asB_b]
      exact hk _
theorem c3(aw:∀(h:H)(k:KV),k (.bool true) h→W1 (.func 7) [] h k){h:H}{v0:AV}{lf:List Fl}(hv0:SlE 2 h v0 (fcs lf))(htk:TkR h v l)(hk:∀h,k (.bool true) h):W1 (.func 3) [v0,v,.agg [S A,.int .i64 F,.int .i64 T]] h k:=by
  refine w3 (n:=3*l.length+6) sw_ok (g3 ?_)
  unfold s3_0
  rw[asG_g]
  refine chk_i (fun e=>by cases e) (newK_i ?_)
  have x1:Exh h (h.new (rowOf 25 [S A,.int .i64 F,.int .i64 T])):=.new
  have m1:h.next.nat<(h.new (rowOf 25 [S A,.int .i64 F,.int .i64 T])).next.nat:=by rw[next_new];omega
  have a1:AtP (h.new (rowOf 25 [S A,.int .i64 F,.int .i64 T])) h.next 0 [S A,.int .i64 F,.int .i64 T]:=AtP.newRow
  generalize h.new (rowOf 25 [S A,.int .i64 F,.int .i64 T])=h1 at x1 a1 m1 ⊢
  refine c5 (hv0.ext x1) fun b hb=>?_
  rw[asB_b]
  have go:∀b9,(b9=false→(lf.length≤8∧∀f∈lf,SmF f)∧l.length≤40∧∀x∈l,x.st.length≤20)→cnd b9 (W1 (.func 7) [] h1 fun v13 h14=>asB v13 fun b15=>k (.bool b15) h14) (W1 (.func 8) [.nils,v0] h1 fun v16 h17=>ext 0 v16 fun v18=>ext 1 v16 fun v19=>ext 2 v16 fun v20=>asB v20 fun b21=>cnd (bnot b21) (k (.bool false) h17) ((r3 W1 k (3*l.length+5)).a1 v (.ptr h.next 0) v18 v19 .nils (Int.ofNat 0) h17)):=fun b9 hb9=>by
    refine cnd_i (fun _=>?_) (fun e=>?_)
    · refine aw _ _ ?_
      rw[asB_b];exact hk _
    · obtain⟨⟨s1,s2⟩,s3,s4⟩:=hb9 e
      refine c8 (hv0.ext x1) (by omega) (fun f hf=>⟨by have:=(s2 f hf).1;omega,by have:=(s2 f hf).2;omega⟩) fun h2 pT pF pV pm fs ls ns bo=>?_
      rw[ext_0,ext_1,ext_2,asB_b]
      refine cnd_f rfl ?_
      have X:=x1.trans bo.x
      exact c3_1 aw { p:=bo.p,d:=bo.e.d,same:=bo.same,sp:=bo.sp,sl:=bo.sl,tk:=htk.ext X,hl:=by omega,hs:=fun x hx=>by have:=s4 x hx;omega,at0:=a1.ext bo.x m1,nq:=Nat.lt_of_lt_of_le m1 bo.x.1 } hk _ 0 (by omega) (Nat.zero_le _) .refl (.inl ⟨rfl,rfl⟩)
  refine or_i (fun e=>?_) (fun _=>go true fun q=>by cases q)
  have hb:=hb (by cases b with
    |true=>rfl
    |false=>cases e)
  refine c6 (htk.ext x1) fun b2 hb2=>?_
  rw[asB_b]
  refine go _ fun e2=>⟨hb,hb2 (by cases b2 with
    |true=>rfl
    |false=>cases e2)⟩
end
end Go.Den
