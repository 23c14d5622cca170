/-
  A part of the proof: the document's table of files.
-/
import Derived.Test.YtpjkiikmjddpiaaGreatDoorTab
namespace Go.Den
open Go.RowKit
set_option maxRecDepth 100000
/-- a slice that is read, or none -/
def SlR(sz:Nat)(h:H)(v:AV)(L:List (List AV)):Prop:=(v=.nils∧L=[])∨Rd sz h v L
theorem SlR.len{sz:Nat}{h:H}{v:AV}{L:List (List AV)}(hr:SlR sz h v L){K:Nat→Prop}:lenV v K=K L.length:=by
  rcases hr with⟨rfl,rfl⟩|hr
  · rfl
  · exact hr.len
theorem SlR.ext{sz:Nat}{h h':H}{v:AV}{L:List (List AV)}(hr:SlR sz h v L)(x:Exh h h'):SlR sz h' v L:=hr.imp id fun hr=>hr.ext x
theorem SlR.rd{sz:Nat}{h:H}{v:AV}{L:List (List AV)}(hr:SlR sz h v L){i:Nat}(hi:i<L.length):Rd sz h v L:=hr.resolve_left fun e=>by rw[e.2] at hi;cases hi
noncomputable def fcs (l:List Fl):List (List AV):=l.map fun f=>[S f.1,S f.2]
theorem fcs_len(l:List Fl):(fcs l).length=l.length:=List.length_map ..
theorem fcs_get{l:List Fl}{i:Nat}(h:i<l.length)(h':i<(fcs l).length):(fcs l)[i]=[S l[i].1,S l[i].2]:=List.getElem_map ..
noncomputable def scs (l:List (List UInt8)):List (List AV):=l.map fun s=>[S s]
theorem scs_len(l:List (List UInt8)):(scs l).length=l.length:=List.length_map ..
theorem scs_get{l:List (List UInt8)}{i:Nat}(h:i<l.length)(h':i<(scs l).length):(scs l)[i]=[S l[i]]:=List.getElem_map ..
structure TabD(h:H)(pm:P)(ls:List Fl)(ns:List (List UInt8)):Prop where
  nm:pm.nat<h.next.nat
  row:∃t,h.at pm=.row t 4 0 66 true∧SlR 2 h (tget t 1) (fcs ls)∧SlR 1 h (tget t 2) (scs ns)∧SlR 1 h (tget t 3) (ns.map fun _=>[.int .i64 (.ofNat 1)])
  ris:Ris ls
  len:ls.length≤1000
theorem TabD.ext{h h':H}{pm:P}{ls:List Fl}{ns:List (List UInt8)}(t:TabD h pm ls ns)(x:Exh h h'):TabD h' pm ls ns:=by
  obtain⟨tt,h1,h2,h3,h4⟩:=t.row
  exact⟨Nat.lt_of_lt_of_le t.nm x.1,⟨tt,by rw[x.2 _ t.nm];exact h1,h2.ext x,h3.ext x,h4.ext x⟩,t.ris,t.len⟩
theorem c38_1{h:H}{pm:P}{ls:List Fl}{ns:List (List UInt8)}(tb:TabD h pm ls ns){p:List UInt8}{k:KV}(hk:k (.tuple [.int .i64 (.ofNat (kAt ls p)),.bool (textOf ls p).isSome]) h):∀(n i:Nat),ls.length+1-i<n→i≤kAt ls p→(r38 W1 k n).a1 (.ptr pm 0) p.length (enc p) (Int.ofNat i) h
  |0,_,hn,_=>absurd hn (Nat.not_lt_zero _)
  |n+1,i,hn,hi=>by
    have hle:=kAt_le ls p
    have tl:=tb.len
    obtain⟨t,h1,h2,_,_⟩:=tb.row
    refine j38_1 ?_
    unfold s38_1
    have rd:∀{K:AV→H→Prop},K (tget t 1) h→oK (exNil (.ptr pm 0) h) fun v1 h2=>fAddr 1 v1 fun v3=>ld1 v3 h2 fun v4=>K v4 h2:=fun hK=>by
      rw[exNil_p,oK_some,fAddr_i]
      exact ld1_i h1 (by decide) hK
    refine rd ?_
    rw[h2.len,fcs_len,ilt]
    refine and_i (fun e=>?_) (fun e=>?_)
    · have e:i<ls.length:=of_decide_eq_true e
      have e':i<(fcs ls).length:=by rw[fcs_len];exact e
      refine rd ?_
      refine natI_go ((h2.rd e').fld (j:=0) e' (by rw[fcs_get e];show 0<2;decide) ?_)
      simp only[fcs_get e,List.getElem_cons_zero]
      rw[asS_s,ltS_enc]
      refine cnd_i (fun q=>?_) (fun q=>?_)
      · refine fIadd (by omega) ?_
        refine c38_1 tb hk n (i+1) (by omega) ?_
        rcases Nat.lt_or_ge i (kAt ls p) with w|w
        · exact w
        · have:i=kAt ls p:=by omega
          subst this
          rw[kAt_nlt e] at q;cases q
      · have hik:i=kAt ls p:=by
          rcases Nat.lt_or_ge i (kAt ls p) with w|w
          · rw[kAt_lt e w] at q;cases q
          · omega
        refine rd ?_
        rw[h2.len,fcs_len,ilt,decide_eq_true e]
        refine and_i (fun _=>?_) (fun q=>by cases q)
        refine rd ?_
        refine natI_go ((h2.rd e').fld (j:=0) e' (by rw[fcs_get e];show 0<2;decide) ?_)
        simp only[fcs_get e,List.getElem_cons_zero]
        rw[asS_s,strEq_enc]
        subst hik
        have ht:=at_text (p:=p) tb.ris
        by_cases q2:ls[kAt ls p].1=p
        · rw[ht.1 e q2] at hk
          rw[decide_eq_true q2];exact hk
        · rw[ht.2 fun⟨_,w⟩=>q2 w] at hk
          rw[decide_eq_false q2];exact hk
    · have e:¬i<ls.length:=of_decide_eq_false e
      have hik:i=kAt ls p:=by omega
      refine cnd_f rfl (rd ?_)
      rw[h2.len,fcs_len,ilt,decide_eq_false e]
      refine and_i (fun q=>by cases q) fun _=>?_
      have ht:=at_text (p:=p) tb.ris
      rw[ht.2 fun⟨w,_⟩=>by omega] at hk
      rw[hik];exact hk
theorem c38{h:H}{pm:P}{ls:List Fl}{ns:List (List UInt8)}(tb:TabD h pm ls ns){p:List UInt8}{k:KV}(hk:k (.tuple [.int .i64 (.ofNat (kAt ls p)),.bool (textOf ls p).isSome]) h):W1 (.func 38) [.ptr pm 0,S p] h k:=by
  refine w38 (n:=ls.length+3) sw_ok (g38 ?_)
  unfold s38_0
  exact c38_1 tb hk _ 0 (by omega) (Nat.zero_le _)
theorem c24{h:H}{pm:P}{ls:List Fl}{ns:List (List UInt8)}(tb:TabD h pm ls ns){p:List UInt8}{k:KV}(hk:k (match textOf ls p with|none=>.tuple [.str 0 0,.bool false]|some x=>.tuple [S x,.bool true]) h):W1 (.func 24) [.ptr pm 0,S p] h k:=by
  refine w24 (n:=1) sw_ok (g24 ?_)
  unfold s24_0
  refine c38 tb ?_
  obtain⟨t,h1,h2,_,_⟩:=tb.row
  rw[ext_0,asI_k,ext_1,asB_b]
  have ht:=at_text (p:=p) tb.ris
  by_cases q:∃w:kAt ls p<ls.length,ls[kAt ls p].1=p
  · obtain⟨e,q⟩:=q
    rw[ht.1 e q] at hk ⊢
    refine cnd_f rfl ?_
    have e':kAt ls p<(fcs ls).length:=by rw[fcs_len];exact e
    rw[exNil_p,oK_some,fAddr_i]
    refine ld1_i h1 (by decide) (natI_go ((h2.rd e').fld (j:=1) e' (by rw[fcs_get e];show 1<2;decide) ?_))
    simp only[fcs_get e,List.getElem_cons_succ,List.getElem_cons_zero]
    rw[asS_s];exact hk
  · rw[ht.2 q] at hk ⊢
    exact cnd_t rfl hk
theorem c10{h:H}{pm:P}{ls:List Fl}{ns:List (List UInt8)}(tb:TabD h pm ls ns)(hs:Sht ls){p:List UInt8}{f t:Int}{k:KV}(hk:∀h',Exh h h'→k (spA (spV (textOf ls p) f t)) h'):W1 (.func 10) [.ptr pm 0,.agg [S p,.int .i64 f,.int .i64 t]] h k:=by
  refine w10 (n:=1) sw_ok (g10 ?_)
  unfold s10_0
  rw[asG_g]
  refine chk_i (by simp) (newK_i ?_)
  have x1:Exh h (h.new (rowOf 25 [S p,.int .i64 f,.int .i64 t])):=.new
  have ha:AtP (h.new (rowOf 25 [S p,.int .i64 f,.int .i64 t])) h.next 0 [S p,.int .i64 f,.int .i64 t]:=AtP.newRow
  rw[fAddr_i]
  refine ha.ld1 (j:=0) (by show 0<3;decide) ?_
  show asS (S p) _
  rw[asS_s]
  refine c24 (tb.ext x1) ?_
  cases e:textOf ls p with
  |none=>
    rw[e] at hk
    show ext 0 (.tuple [.str 0 0,.bool false]) _
    rw[ext_0]
    show asS (S []) _
    rw[asS_s,ext_1,asB_b]
    refine or_i (fun q=>by cases q) fun _=>?_
    refine or_i (fun q=>by cases q) fun _=>?_
    refine or_i (fun q=>by cases q) fun _=>?_
    exact cnd_t rfl (hk _ x1)
  |some x=>
    rw[e] at hk
    show ext 0 (.tuple [S x,.bool true]) _
    rw[ext_0,asS_s,ext_1,asB_b]
    obtain⟨g,hg,_,rfl⟩:=textOf_some e
    have hgl:=hs g hg
    refine or_q (b:=decide (f<0)) (fun k' hk'=>?_) ?_
    · rw[fAddr_i]
      refine ha.ld1 (j:=1) (by show 1<3;decide) ?_
      show asI .i64 (.int .i64 f) _
      rw[asI_k,iblt_eq];exact hk'
    refine or_q (b:=decide (t<f)) (fun k' hk'=>?_) ?_
    · rw[fAddr_i]
      refine ha.ld1 (j:=1) (by show 1<3;decide) ?_
      show asI .i64 (.int .i64 f) _
      rw[asI_k,fAddr_i]
      refine ha.ld1 (j:=2) (by show 2<3;decide) ?_
      show asI .i64 (.int .i64 t) _
      rw[asI_k,iblt_eq];exact hk'
    refine or_q (b:=decide (Int.ofNat g.2.length<t)) (fun k' hk'=>?_) ?_
    · rw[fAddr_i]
      refine ha.ld1 (j:=2) (by show 2<3;decide) ?_
      show asI .i64 (.int .i64 t) _
      rw[asI_k,iblt_eq];exact hk'
    refine cnd_i (fun q=>?_) (fun q=>?_)
    · have:spV (some g.2) f t=none:=by
        unfold spV
        refine if_neg fun w=>?_
        simp only[Bool.or_eq_true,decide_eq_true_eq] at q
        rcases q with((q|q)|q)|q
        · cases q
        · omega
        · omega
        · omega
      rw[this] at hk
      exact hk _ x1
    · simp only[Bool.or_eq_false_iff,decide_eq_false_iff_not] at q
      have:spV (some g.2) f t=some (bkR f t (standR g.2)):=if_pos ⟨by omega,by omega,by omega⟩
      rw[this] at hk
      rw[fAddr_i]
      refine ha.ld1 (j:=1) (by show 1<3;decide) ?_
      show asI .i64 (.int .i64 f) _
      rw[asI_k,fAddr_i]
      refine ha.ld1 (j:=2) (by show 2<3;decide) ?_
      show asI .i64 (.int .i64 t) _
      rw[asI_k]
      refine c17 (by omega) fun h3 x3=>?_
      rw[asS_s]
      exact hk h3 (x1.trans x3)
end Go.Den
