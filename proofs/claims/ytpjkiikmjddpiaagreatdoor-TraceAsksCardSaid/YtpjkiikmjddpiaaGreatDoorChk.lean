/-
  A part of the proof: whether a token is spelled where it says: both answers.
-/
import Derived.Test.YtpjkiikmjddpiaaGreatDoorSml
namespace Go.Den
open Go.RowKit
set_option maxRecDepth 100000
theorem spA_eq(o:Option (List UInt8)):spA o=.tuple [S (o.getD []),.bool o.isSome]:=by cases o<;>rfl
theorem neB(x y:Bool):binA env .neq 4 (.bool x) (.bool y)=some (.bool (bnot (beqB x y))):=by kernel_rfl
abbrev spT(T:List Fl)(x:TkA):Option (List UInt8):=spV (textOf T x.fl) x.f x.t
abbrev spS(T:List Fl)(y:SkA):Option (List UInt8):=spV (textOf T y.fl) y.f y.t
def sBad(T:List Fl)(y:SkA):Bool:=!(spS T y).isSome||(!y.md&&!decide ((spS T y).getD []=y.m))
def tBad(T:List Fl)(x:TkA):Bool:=!(spT T x).isSome||((!x.md&&!decide (x.k=7))&&!decide ((spT T x).getD []=x.s))
def ckV(T:List Fl)(x:TkA):Bool:=!tBad T x&&x.st.all fun y=>!sBad T y
theorem ieqK(a b:Int):ibeq a b=decide (a=b):=by rw[ibeq_eq,Bool.eq_iff_iff,beq_iff_eq,decide_eq_true_eq]
theorem Tp3{h:H}{q:P}{x:TkA}(ha:AtP h q 0 x.cs){K:AV→Prop}(hk:K (.agg [S x.fl,.int .i64 x.f,.int .i64 x.t])):fAddr 3 (.ptr q 0) fun a=>ldn 3 a h K:=by
  rw[fAddr_i]
  exact ha.ldnS (j:=3) (c:=3) (by show 3+3≤8;decide) hk
theorem c9{h:H}{pT pF pV:P}{fs:List Fl}(tb:TabP h pT pF pV fs)(hs:Sht fs){x:TkA}{k:KV}(hk:∀h',Exh h h'→k (.tuple [S ((spT fs x).getD []),.bool (spT fs x).isSome]) h'):W1 (.func 9) [.ptr pT 0,.agg x.cs] h k:=by
  refine w9 (n:=1) sw_ok (g9 ?_)
  unfold s9_0
  rw[asG_g]
  refine chk_i (fun e=>by cases e) (newK_i ?_)
  have x1:Exh h (h.new (rowOf 38 x.cs)):=.new
  have a1:AtP (h.new (rowOf 38 x.cs)) h.next 0 x.cs:=AtP.newRow
  generalize h.new (rowOf 38 x.cs)=h1 at x1 a1 ⊢
  refine Tp3 a1 ?_
  refine c23 (tb.ext x1) hs fun h2 x2=>?_
  rw[spA_eq,ext_0,asS_s,ext_1,asB_b]
  exact hk h2 (x1.trans x2)
theorem eq7(n:Int):ibeq n (Int.ofNat 7)=decide (n=7):=ieqK n 7
theorem c11_1{hE:H}{pT pF pV:P}{fs:List Fl}(tb:TabP hE pT pF pV fs)(hs:Sht fs){v:AV}{st:List SkA}(hv:SlE 5 hE v (sks st))(hl:st.length≤1000){k:KV}(hk:∀h',Exh hE h'→k (.bool (st.all fun y=>!sBad fs y)) h'):∀(n i:Nat){h:H},st.length-i<n→i≤st.length→Exh hE h→((st.take i).all fun y=>!sBad fs y)=true→(r11 W1 k n).a1 (.ptr pT 0) v (Int.ofNat st.length) (Int.ofNat i) h
  |0,_,_,hh,_,_,_=>absurd hh (Nat.not_lt_zero _)
  |n+1,i,h,hh,hi,x,ok=>by
    refine j11_1 ?_
    unfold s11_1
    rw[ilt]
    refine cnd_i (fun e=>?_) (fun e=>?_)
    · have e:i<st.length:=of_decide_eq_true e
      have e':i<(sks st).length:=by rw[sks_len];exact e
      refine natI_go ((hv.rd e').elem e' fun q o hq _ ha=>?_)
      rw[sks_get e] at ha
      refine(ha.ext x hq).ldn rfl ?_
      refine newK_i ?_
      refine new_cp (e:=41) (zs:=[(.str 0 0),(.str 0 0),(.int .i64 (Int.ofNat 0)),(.int .i64 (Int.ofNat 0)),(.bool false)]) rfl rfl (by decide) fun h1 x1 n1 at1=>?_
      have X1:=x.trans x1
      rw[fAddr_i]
      refine at1.ldnS (j:=1) (c:=3) (by show 1+3≤5;decide) ?_
      show W1 (.func 23) [.ptr pT 0,.agg [S st[i].fl,.int .i64 st[i].f,.int .i64 st[i].t]] h1 _
      refine c23 (tb.ext X1) hs fun h2 x2=>?_
      have X2:=X1.trans x2
      have at2:=at1.ext x2 n1
      rw[spA_eq,ext_0,asS_s,ext_1,asB_b,bn_not]
      refine or_q (b:=!st[i].md&&!decide ((spS fs st[i]).getD []=st[i].m)) (fun k' hk'=>?_) ?_
      · rw[fAddr_i]
        refine at2.ld1 (j:=4) (by show 4<5;decide) ?_
        show asB (.bool st[i].md) _
        rw[asB_b,bn_not]
        refine and_q (b:=!decide ((spS fs st[i]).getD []=st[i].m)) (fun k'' hk''=>?_) hk'
        rw[fAddr_i]
        refine at2.ld1 (j:=0) (by show 0<5;decide) ?_
        show asS (S st[i].m) _
        rw[asS_s,strEq_enc,bn_not];exact hk''
      show cnd (sBad fs st[i]) _ _
      refine cnd_i (fun q=>?_) (fun q=>?_)
      · have:(st.all fun y=>!sBad fs y)=false:=by
          refine List.all_eq_false.2 ⟨st[i],List.getElem_mem e,?_⟩
          rw[q];decide
        rw[this] at hk
        exact hk _ X2
      · refine fIadd (by omega) ?_
        refine c11_1 tb hs hv hl hk n (i+1) (by omega) e X2 ?_
        rw[List.take_succ_eq_append_getElem e,List.all_append,ok]
        simp[q]
    · have e:i=st.length:=by have:=of_decide_eq_false e;omega
      subst e
      rw[List.take_length] at ok
      rw[ok] at hk
      exact hk _ x
theorem c11{h:H}{pT pF pV:P}{fs:List Fl}(tb:TabP h pT pF pV fs)(hs:Sht fs){x:TkA}(hx:SlE 5 h x.sv (sks x.st))(hl:x.st.length≤1000){k:KV}(hk:∀h',Exh h h'→k (.bool (ckV fs x)) h'):W1 (.func 11) [.ptr pT 0,.agg x.cs] h k:=by
  refine w11 (n:=x.st.length+2) sw_ok (g11 ?_)
  unfold s11_0
  rw[asG_g]
  refine chk_i (fun e=>by cases e) (newK_i ?_)
  have x1:Exh h (h.new (rowOf 38 x.cs)):=.new
  have m1:h.next.nat<(h.new (rowOf 38 x.cs)).next.nat:=by rw[next_new];omega
  have a1:AtP (h.new (rowOf 38 x.cs)) h.next 0 x.cs:=AtP.newRow
  generalize h.new (rowOf 38 x.cs)=h1 at x1 a1 m1 ⊢
  refine a1.ldn rfl ?_
  refine c9 (tb.ext x1) hs fun h2 x2=>?_
  have X2:=x1.trans x2
  have a2:=a1.ext x2 m1
  rw[ext_0,asS_s,ext_1,asB_b,bn_not]
  refine or_q (b:=(!x.md&&!decide (x.k=7))&&!decide ((spT fs x).getD []=x.s)) (fun k' hk'=>?_) ?_
  · rw[fAddr_i]
    refine a2.ld1 (j:=6) (by show 6<8;decide) ?_
    show asB (.bool x.md) _
    rw[asB_b,bn_not]
    refine and_q (b:=!decide (x.k=7)) (fun k'' hk''=>?_) ?_
    · rw[fAddr_i]
      refine a2.ld1 (j:=0) (by show 0<8;decide) ?_
      show asI .i64 (.int .i64 x.k) _
      rw[asI_k,eq7,bn_not];exact hk''
    refine and_q (b:=!decide ((spT fs x).getD []=x.s)) (fun k'' hk''=>?_) hk'
    rw[fAddr_i]
    refine a2.ld1 (j:=1) (by show 1<8;decide) ?_
    show asS (S x.s) _
    rw[asS_s,strEq_enc,bn_not];exact hk''
  show cnd (tBad fs x) _ _
  refine cnd_i (fun q=>?_) (fun q=>?_)
  · have:ckV fs x=false:=by unfold ckV;rw[q];rfl
    rw[this] at hk
    exact hk _ X2
  · have:ckV fs x=x.st.all fun y=>!sBad fs y:=by unfold ckV;rw[q];rfl
    rw[this] at hk
    rw[fAddr_i]
    refine a2.ld1 (j:=7) (by show 7<8;decide) ?_
    show lenV x.sv _
    rw[hx.len,sks_len]
    exact c11_1 (tb.ext X2) hs (hx.ext X2) hl (fun h3 x3=>hk h3 (X2.trans x3)) _ 0 (by omega) (Nat.zero_le _) .refl rfl
/-! ### The document's -/
theorem c12_1{hE:H}{pm q0:P}{ls:List Fl}{ns:List (List UInt8)}(tb:TabD hE pm ls ns)(hs:Sht ls){x:TkA}(hq:AtP hE q0 0 x.cs)(nq:q0.nat<hE.next.nat)(hv:SlE 5 hE x.sv (sks x.st))(hl:x.st.length≤1000){k:KV}(hk:∀h',Exh hE h'→k (.bool (x.st.all fun y=>!sBad ls y)) h'):∀(n i:Nat){h:H},x.st.length-i<n→i≤x.st.length→Exh hE h→((x.st.take i).all fun y=>!sBad ls y)=true→(r12 W1 k n).a1 (.ptr pm 0) (.ptr q0 0) (Int.ofNat i) h
  |0,_,_,hh,_,_,_=>absurd hh (Nat.not_lt_zero _)
  |n+1,i,h,hh,hi,xx,ok=>by
    refine j12_1 ?_
    unfold s12_1
    have sv:∀{h':H}(_:Exh hE h'){K:AV→Prop},K x.sv→fAddr 7 (.ptr q0 0) fun a=>ld1 a h' K:=fun X K hK=>by
      rw[fAddr_i]
      exact(hq.ext X nq).ld1 (j:=7) (by show 7<8;decide) hK
    refine sv xx ?_
    rw[hv.len,sks_len,ilt]
    refine cnd_i (fun e=>?_) (fun e=>?_)
    · have e:i<x.st.length:=of_decide_eq_true e
      have e':i<(sks x.st).length:=by rw[sks_len];exact e
      refine sv xx ?_
      refine natI_go ((hv.rd e').elem e' fun q o hqn _ ha=>?_)
      rw[sks_get e] at ha
      rw[fAddr_i]
      refine(ha.ext xx hqn).ldnS (j:=1) (c:=3) (by show 1+3≤5;decide) ?_
      show W1 (.func 10) [.ptr pm 0,.agg [S x.st[i].fl,.int .i64 x.st[i].f,.int .i64 x.st[i].t]] h _
      refine c10 (tb.ext xx) hs fun h2 x2=>?_
      have X2:=xx.trans x2
      rw[spA_eq,ext_0,asS_s,ext_1,asB_b,bn_not]
      refine or_q (b:=!x.st[i].md&&!decide ((spS ls x.st[i]).getD []=x.st[i].m)) (fun k' hk'=>?_) ?_
      · refine sv X2 ?_
        refine natI_go ((hv.rd e').elem e' fun q o hqn _ ha=>?_)
        rw[sks_get e] at ha
        rw[fAddr_i]
        refine(ha.ext X2 hqn).ld1 (j:=4) (by show 4<5;decide) ?_
        show asB (.bool x.st[i].md) _
        rw[asB_b,bn_not]
        refine and_q (b:=!decide ((spS ls x.st[i]).getD []=x.st[i].m)) (fun k'' hk''=>?_) hk'
        refine sv X2 ?_
        refine natI_go ((hv.rd e').elem e' fun q o hqn _ ha=>?_)
        rw[sks_get e] at ha
        rw[fAddr_i]
        refine(ha.ext X2 hqn).ld1 (j:=0) (by show 0<5;decide) ?_
        show asS (S x.st[i].m) _
        rw[asS_s,strEq_enc,bn_not];exact hk''
      show cnd (sBad ls x.st[i]) _ _
      refine cnd_i (fun q=>?_) (fun q=>?_)
      · have:(x.st.all fun y=>!sBad ls y)=false:=by
          refine List.all_eq_false.2 ⟨x.st[i],List.getElem_mem e,?_⟩
          rw[q];decide
        rw[this] at hk
        exact hk _ X2
      · refine fIadd (by omega) ?_
        refine c12_1 tb hs hq nq hv hl hk n (i+1) (by omega) e X2 ?_
        rw[List.take_succ_eq_append_getElem e,List.all_append,ok]
        simp[q]
    · have e:i=x.st.length:=by have:=of_decide_eq_false e;omega
      subst e
      rw[List.take_length] at ok
      rw[ok] at hk
      exact hk _ xx
theorem c12{h:H}{pm:P}{ls:List Fl}{ns:List (List UInt8)}(tb:TabD h pm ls ns)(hs:Sht ls){x:TkA}(hx:SlE 5 h x.sv (sks x.st))(hl:x.st.length≤1000){k:KV}(hk:∀h',Exh h h'→k (.bool (ckV ls x)) h'):W1 (.func 12) [.ptr pm 0,.agg x.cs] h k:=by
  refine w12 (n:=x.st.length+2) sw_ok (g12 ?_)
  unfold s12_0
  rw[asG_g]
  refine chk_i (fun e=>by cases e) (newK_i ?_)
  have x1:Exh h (h.new (rowOf 38 x.cs)):=.new
  have m1:h.next.nat<(h.new (rowOf 38 x.cs)).next.nat:=by rw[next_new];omega
  have a1:AtP (h.new (rowOf 38 x.cs)) h.next 0 x.cs:=AtP.newRow
  generalize h.new (rowOf 38 x.cs)=h1 at x1 a1 m1 ⊢
  refine Tp3 a1 ?_
  refine c10 (tb.ext x1) hs fun h2 x2=>?_
  have X2:=x1.trans x2
  have a2:=a1.ext x2 m1
  rw[spA_eq,ext_0,asS_s,ext_1,asB_b,bn_not]
  refine or_q (b:=(!x.md&&!decide (x.k=7))&&!decide ((spT ls x).getD []=x.s)) (fun k' hk'=>?_) ?_
  · rw[fAddr_i]
    refine a2.ld1 (j:=6) (by show 6<8;decide) ?_
    show asB (.bool x.md) _
    rw[asB_b,bn_not]
    refine and_q (b:=!decide (x.k=7)) (fun k'' hk''=>?_) ?_
    · rw[fAddr_i]
      refine a2.ld1 (j:=0) (by show 0<8;decide) ?_
      show asI .i64 (.int .i64 x.k) _
      rw[asI_k,eq7,bn_not];exact hk''
    refine and_q (b:=!decide ((spT ls x).getD []=x.s)) (fun k'' hk''=>?_) hk'
    rw[fAddr_i]
    refine a2.ld1 (j:=1) (by show 1<8;decide) ?_
    show asS (S x.s) _
    rw[asS_s,strEq_enc,bn_not];exact hk''
  show cnd (tBad ls x) _ _
  refine cnd_i (fun q=>?_) (fun q=>?_)
  · have:ckV ls x=false:=by unfold ckV;rw[q];rfl
    rw[this] at hk
    exact hk _ X2
  · have:ckV ls x=x.st.all fun y=>!sBad ls y:=by unfold ckV;rw[q];rfl
    rw[this] at hk
    exact c12_1 (tb.ext X2) hs a2 (Nat.lt_of_lt_of_le m1 x2.1) (hx.ext X2) hl (fun h3 x3=>hk h3 (X2.trans x3)) _ 0 (by omega) (Nat.zero_le _) .refl rfl
theorem ckV_same{fs ls:List Fl}(h:∀q,textOf fs q=textOf ls q)(x:TkA):ckV fs x=ckV ls x:=by
  unfold ckV tBad sBad spT spS
  simp only[h]
end Go.Den
