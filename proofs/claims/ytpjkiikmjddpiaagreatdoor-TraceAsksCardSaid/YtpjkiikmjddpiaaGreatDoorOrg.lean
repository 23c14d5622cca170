/-
  A part of the proof: where tokens come from, and which come from some bytes.
-/
import Derived.Test.YtpjkiikmjddpiaaGreatDoorChk
import Derived.Test.YtpjkiikmjddpiaaGreatDoorIst
namespace Go.Den
open Go.RowKit
set_option maxRecDepth 100000
def orS(x:TkA):List UInt8×Int×Int:=match x.st[x.st.length-1]? with
  |some y=>(y.fl,y.f,y.t)
  |none=>(x.fl,x.f,x.t)
noncomputable def orC (x:TkA):List AV:=[S (orS x).1,.int .i64 (orS x).2.1,.int .i64 (orS x).2.2]
theorem orC_some{x:TkA}(h:x.st.length-1<x.st.length):orC x=[S x.st[x.st.length-1].fl,.int .i64 x.st[x.st.length-1].f,.int .i64 x.st[x.st.length-1].t]:=by
  unfold orC orS;rw[List.getElem?_eq_getElem h]
theorem orC_none{x:TkA}(h:x.st=[]):orC x=[S x.fl,.int .i64 x.f,.int .i64 x.t]:=by
  unfold orC orS;rw[h];rfl
theorem neSp(l c m d:Nat)(a b a' b':Int):binA env .neq 25 (.agg [.str l c,.int .i64 a,.int .i64 b]) (.agg [.str m d,.int .i64 a',.int .i64 b'])=neAns (Bool.rec (some false) (Bool.rec (some false) (Bool.rec (some false) (some true) (ibeq b b')) (ibeq a a')) (band (Nat.beq l m) (Nat.beq c d))):=by kernel_rfl
theorem neSp_r(l c:Nat)(a b:Int):binA env .neq 25 (.agg [.str l c,.int .i64 a,.int .i64 b]) (.agg [.str l c,.int .i64 a,.int .i64 b])=some (.bool false):=by
  rw[neSp,Nat.beq_refl,Nat.beq_refl,ibeq_r,ibeq_r];rfl
theorem fIsub{a b:Nat}{K:Int→Prop}(h:b≤a)(ha:a≤1000000000)(hk:K (Int.ofNat (a-b))):fI (wrap .i64 (isub (Int.ofNat a) (Int.ofNat b))) K:=by
  rw[isubN h,wrapN (by omega),fI_eq];exact hk
theorem c25{h:H}{x:TkA}(hx:SlE 5 h x.sv (sks x.st))(hl:x.st.length≤1000){k:KV}(hk:∀h',Exh h h'→k (.agg (orC x)) h'):W1 (.func 25) [.agg x.cs] h k:=by
  refine w25 (n:=1) sw_ok (g25 ?_)
  unfold s25_0
  rw[asG_g]
  refine chk_i (fun e=>by cases e) (newK_i ?_)
  have x1:Exh h (h.new (rowOf 38 x.cs)):=.new
  have m1:h.next.nat<(h.new (rowOf 38 x.cs)).next.nat:=by rw[next_new];omega
  have a1:AtP (h.new (rowOf 38 x.cs)) h.next 0 x.cs:=AtP.newRow
  generalize h.new (rowOf 38 x.cs)=h1 at x1 a1 m1 ⊢
  refine newK_i ?_
  have x2:Exh h1 (h1.new ob25):=.new
  have sv:∀{K:AV→Prop},K x.sv→fAddr 7 (.ptr h.next 0) fun a=>ld1 a (h1.new ob25) K:=fun hK=>by
    rw[fAddr_i]
    exact(a1.ext x2 m1).ld1 (j:=7) (by show 7<8;decide) hK
  refine sv ?_
  rw[hx.len,sks_len,show iblt (Int.ofNat 0) (Int.ofNat x.st.length)=decide (0<x.st.length) from ilt _ _]
  have fin:∀h3,Exh h1 h3→AtP h3 h1.next 0 (orC x)→ldn 3 (.ptr h1.next 0) h3 fun v=>k v h3:=fun h3 x3 a3=>a3.ldn rfl (hk h3 (x1.trans x3))
  refine cnd_i (fun e=>?_) (fun e=>?_)
  · have e:0<x.st.length:=of_decide_eq_true e
    refine sv (fIsub e (by omega) ?_)
    have e2:x.st.length-1<x.st.length:=by omega
    have e':x.st.length-1<(sks x.st).length:=by rw[sks_len];exact e2
    refine natI_go ((hx.rd e').elem e' fun q o hq _ ha=>?_)
    rw[sks_get e2] at ha
    rw[fAddr_i]
    refine(ha.ext (x1.trans x2) hq).ldnS (j:=1) (c:=3) (by show 1+3≤5;decide) ?_
    refine new_cp (e:=25) (zs:=[(.str 0 0),(.int .i64 (Int.ofNat 0)),(.int .i64 (Int.ofNat 0))]) rfl rfl (by decide) fun h3 x3 n3 at3=>?_
    exact fin h3 x3 (by rw[orC_some e2];exact at3)
  · have e:x.st=[]:=List.eq_nil_of_length_eq_zero (by have:=of_decide_eq_false e;omega)
    refine Tp3 (a1.ext x2 m1) ?_
    refine new_cp (e:=25) (zs:=[(.str 0 0),(.int .i64 (Int.ofNat 0)),(.int .i64 (Int.ofNat 0))]) rfl rfl (by decide) fun h3 x3 n3 at3=>?_
    exact fin h3 x3 (by rw[orC_none e];exact at3)
theorem c13{h:H}{x:TkA}(hx:SlE 5 h x.sv (sks x.st))(hl:x.st.length≤1000){k:KV}(hk:∀h',Exh h h'→k (.agg (orC x)) h'):W1 (.func 13) [.agg x.cs] h k:=by
  refine w13 (n:=1) sw_ok (g13 ?_)
  unfold s13_0
  rw[asG_g]
  refine chk_i (fun e=>by cases e) (newK_i ?_)
  have x1:Exh h (h.new (rowOf 38 x.cs)):=.new
  have m1:h.next.nat<(h.new (rowOf 38 x.cs)).next.nat:=by rw[next_new];omega
  have a1:AtP (h.new (rowOf 38 x.cs)) h.next 0 x.cs:=AtP.newRow
  generalize h.new (rowOf 38 x.cs)=h1 at x1 a1 m1 ⊢
  refine newK_i ?_
  have x2:Exh h1 (h1.new ob25):=.new
  have a2:(h1.new ob25).at h1.next=.row (tlist [(.str 0 0),(.int .i64 (Int.ofNat 0)),(.int .i64 (Int.ofNat 0))] 0 .e) 3 0 25 true:=at_new_same _ _
  have m2:h1.next.nat<(h1.new ob25).next.nat:=by rw[next_new];omega
  generalize h1.new ob25=h2 at x2 a2 m2 ⊢
  refine(a1.ext x2 m1).ldn rfl ?_
  refine c25 (hx.ext (x1.trans x2)) hl fun h3 x3=>?_
  have a3:h3.at h1.next=.row (tlist [(.str 0 0),(.int .i64 (Int.ofNat 0)),(.int .i64 (Int.ofNat 0))] 0 .e) 3 0 25 true:=by rw[x3.2 _ m2];exact a2
  refine set_cp a3 (by rfl) (by decide) fun o a4=>?_
  exact a4.ldn rfl (hk _ (exh_put ((x1.trans x2).trans x3) (by omega)))
/-! ### Which come from some bytes -/
def hit(A:List UInt8)(F T:Int)(x:TkA):Bool:=(decide ((orS x).1=A)&&decide ((orS x).2.1<T))&&decide (F<(orS x).2.2)
def hits(A:List UInt8)(F T:Int)(l:List TkA)(n:Nat):List Nat:=(List.range n).filter fun i=>((l[i]?).map (hit A F T)).getD false
theorem hits_s{A:List UInt8}{F T:Int}{l:List TkA}{i:Nat}(h:i<l.length):hits A F T l (i+1)=hits A F T l i++(if hit A F T l[i]=true then[i] else[]):=by
  unfold hits
  rw[List.range_succ,List.filter_append]
  congr 1
  rw[List.filter_cons,List.getElem?_eq_getElem h]
  rfl
theorem hits_len{A:List UInt8}{F T:Int}{l:List TkA}{i:Nat}:(hits A F T l i).length≤i:=by
  unfold hits
  have:=List.length_filter_le (fun i=>((l[i]?).map (hit A F T)).getD false) (List.range i)
  rwa [List.length_range] at this
theorem ics_snoc(l:List Nat)(n:Nat):ics (l++[n])=ics l++[[.int .i64 (.ofNat n)]]:=by unfold ics;rw[List.map_append];rfl
theorem app_int{lo:Nat}{h:H}{v:AV}{l:List Nat}{i:Nat}(hb:BufN 3 1 lo h v (ics l))(hl:l.length≤1000000)(hlo:lo≤h.next.nat){k:KV}(hk:∀v' h',BufN 3 1 lo h' v' (ics (l++[i]))→KpS 3 lo h h'→k v' h'):
    oK (withElem env 33 (fun e ei=>exBuildSlice 1 [(0,.int .i64 (Int.ofNat i))] h e ei)) fun x h'=>oK (builtinA env .append [33,33] [v,x] h') k:=by
  rw[bld3,oK_some,app33]
  exact app_q1 (ds:=[.int .i64 (Int.ofNat i)]) (.inr hb) rfl sz3 (fits3 (by rw[ics_len];omega)) hlo (by rw[ics_snoc] at hk;exact hk)
/-- three comparisons of a place with another one -/
theorem hit_go{x:TkA}{A:List UInt8}{F T:Int}{h:H}{p q:P}(hp:AtP h p 0 (orC x))(hq:AtP h q 0 [S A,.int .i64 F,.int .i64 T]){k:Bool→H→Prop}(hk:k (hit A F T x) h):
    fAddr 0 (.ptr p 0) fun a=>ld1 a h fun v=>asS v fun l1 c1=>fAddr 0 (.ptr q 0) fun a=>ld1 a h fun v=>asS v fun l2 c2=>
      joinB (fun k1=>gate true (strEq l1 c1 l2 c2) (fAddr 1 (.ptr p 0) fun a=>ld1 a h fun v=>asI .i64 v fun n=>fAddr 2 (.ptr q 0) fun a=>ld1 a h fun v=>asI .i64 v fun m=>k1 (iblt n m) h) (k1 false h)) fun b h=>
      joinB (fun k1=>gate true b (fAddr 2 (.ptr p 0) fun a=>ld1 a h fun v=>asI .i64 v fun n=>fAddr 1 (.ptr q 0) fun a=>ld1 a h fun v=>asI .i64 v fun m=>k1 (iblt m n) h) (k1 false h)) k:=by
  rw[fAddr_i]
  refine hp.ld1 (j:=0) (by show 0<3;decide) ?_
  show asS (S (orS x).1) _
  rw[asS_s,fAddr_i]
  refine hq.ld1 (j:=0) (by show 0<3;decide) ?_
  show asS (S A) _
  rw[asS_s,strEq_enc]
  refine and_q (b:=decide ((orS x).2.1<T)) (fun k' hk'=>?_) ?_
  · rw[fAddr_i]
    refine hp.ld1 (j:=1) (by show 1<3;decide) ?_
    show asI .i64 (.int .i64 (orS x).2.1) _
    rw[asI_k,fAddr_i]
    refine hq.ld1 (j:=2) (by show 2<3;decide) ?_
    show asI .i64 (.int .i64 T) _
    rw[asI_k,iblt_eq];exact hk'
  refine and_q (b:=decide (F<(orS x).2.2)) (fun k' hk'=>?_) hk
  rw[fAddr_i]
  refine hp.ld1 (j:=2) (by show 2<3;decide) ?_
  show asI .i64 (.int .i64 (orS x).2.2) _
  rw[asI_k,fAddr_i]
  refine hq.ld1 (j:=1) (by show 1<3;decide) ?_
  show asI .i64 (.int .i64 F) _
  rw[asI_k,iblt_eq];exact hk'
theorem c15_1{hE:H}{v:AV}{l:List TkA}(hv:TkR hE v l)(hl:l.length≤1000∧∀x∈l,x.st.length≤1000){q0:P}{A:List UInt8}{F T:Int}(hq:AtP hE q0 0 [S A,.int .i64 F,.int .i64 T])(nq:q0.nat<hE.next.nat){k:KV}(hk:∀v' h',Exh hE h'→BufN 3 1 hE.next.nat h' v' (ics (hits A F T l l.length))→k v' h'):∀(n i:Nat){h:H}{w:AV},l.length-i<n→i≤l.length→Exh hE h→BufN 3 1 hE.next.nat h w (ics (hits A F T l i))→(r15 W1 k n).a1 (.ptr q0 0) w v (Int.ofNat l.length) (Int.ofNat i) h
  |0,_,_,_,hh,_,_,_=>absurd hh (Nat.not_lt_zero _)
  |n+1,i,h,w,hh,hi,xx,hb=>by
    refine j15_1 ?_
    unfold s15_1
    rw[ilt]
    refine cnd_i (fun e=>?_) (fun e=>?_)
    · have e:i<l.length:=of_decide_eq_true e
      have e':i<(tks l).length:=by rw[tks_len];exact e
      have hs:=hv.2 _ (List.getElem_mem e)
      refine natI_go ((hv.1.rd e').elem e' fun q o hqn _ ha=>?_)
      rw[tks_get e] at ha
      refine(ha.ext xx hqn).ldn rfl ?_
      refine newK_i ?_
      refine new_cp (e:=38) (zs:=[(.int .i64 (Int.ofNat 0)),(.str 0 0),(.bool false),(.str 0 0),(.int .i64 (Int.ofNat 0)),(.int .i64 (Int.ofNat 0)),(.bool false),.nils]) rfl rfl (by decide) fun h1 x1 n1 at1=>?_
      have X1:=xx.trans x1
      refine at1.ldn rfl ?_
      refine c13 (hs.ext X1) (hl.2 _ (List.getElem_mem e)) fun h2 x2=>?_
      have X2:=X1.trans x2
      refine newK_i ?_
      refine new_cp (e:=25) (zs:=[(.str 0 0),(.int .i64 (Int.ofNat 0)),(.int .i64 (Int.ofNat 0))]) rfl rfl (by decide) fun h3 x3 n3 at3=>?_
      have X3:=X2.trans x3
      have hb3:=((hb.ext x1).ext x2).ext x3
      have hln:=hits_len (A:=A) (F:=F) (T:=T) (l:=l) (i:=i)
      refine hit_go at3 (hq.ext X3 nq) ?_
      have next:∀{w':AV}{h':H},Exh hE h'→BufN 3 1 hE.next.nat h' w' (ics (hits A F T l (i+1)))→fI (wrap .i64 (iadd (Int.ofNat i) (Int.ofNat 1))) fun n'=>(r15 W1 k n).a1 (.ptr q0 0) w' v (Int.ofNat l.length) n' h':=fun x' b'=>fIadd (by omega) (c15_1 hv hl hq nq hk n (i+1) (by omega) e x' b')
      refine cnd_i (fun q=>?_) (fun q=>?_)
      · refine app_int hb3 (by omega) X3.1 fun v4 h4 b4 k4=>?_
        refine next (k4.exh X3 (Nat.le_refl _)) ?_
        rw[hits_s e,if_pos q];exact b4
      · refine next X3 ?_
        rw[hits_s e,if_neg (by rw[q];decide),List.append_nil];exact hb3
    · have e:i=l.length:=by have:=of_decide_eq_false e;omega
      subst e
      exact hk w h xx hb
theorem c15{h:H}{v:AV}{l:List TkA}(hv:TkR h v l)(hl:l.length≤1000∧∀x∈l,x.st.length≤1000){A:List UInt8}{F T:Int}{k:KV}(hk:∀v' h',Exh h h'→SlR 1 h' v' (ics (hits A F T l l.length))→k v' h'):W1 (.func 15) [.agg [v,.nils,.nils,.nils,.bool false],.agg [S A,.int .i64 F,.int .i64 T]] h k:=by
  refine w15 (n:=l.length+2) sw_ok (g15 ?_)
  unfold s15_0
  rw[asG_g]
  refine chk_i (fun e=>by cases e) (newK_i ?_)
  have x1:Exh h (h.new (rowOf 50 [v,.nils,.nils,.nils,.bool false])):=.new
  have m1:h.next.nat<(h.new (rowOf 50 [v,.nils,.nils,.nils,.bool false])).next.nat:=by rw[next_new];omega
  have a1:AtP (h.new (rowOf 50 [v,.nils,.nils,.nils,.bool false])) h.next 0 [v,.nils,.nils,.nils,.bool false]:=AtP.newRow
  generalize h.new (rowOf 50 [v,.nils,.nils,.nils,.bool false])=h1 at x1 a1 m1 ⊢
  rw[asG_g]
  refine chk_i (fun e=>by cases e) (newK_i ?_)
  have x2:Exh h1 (h1.new (rowOf 25 [S A,.int .i64 F,.int .i64 T])):=.new
  have m2:h1.next.nat<(h1.new (rowOf 25 [S A,.int .i64 F,.int .i64 T])).next.nat:=by rw[next_new];omega
  have a2:AtP (h1.new (rowOf 25 [S A,.int .i64 F,.int .i64 T])) h1.next 0 [S A,.int .i64 F,.int .i64 T]:=AtP.newRow
  generalize h1.new (rowOf 25 [S A,.int .i64 F,.int .i64 T])=h2 at x2 a2 m2 ⊢
  rw[fAddr_i]
  refine(a1.ext x2 m1).ld1 (j:=0) (by show 0<5;decide) ?_
  show lenV v _
  rw[hv.1.len,tks_len]
  have X2:=x1.trans x2
  exact c15_1 (hv.ext X2) hl a2 m2 (fun v' h' x' b'=>hk v' h' (X2.trans x') b'.slr) _ 0 (by omega) (Nat.zero_le _) .refl (.inl ⟨rfl,rfl⟩)
end Go.Den
