/-
 Proof.
-/
import Derived.Test.YtcnmehbkpaoolaaGreatDoorRfb
import Derived.Test.YtcnmehbkpaoolaaGreatDoorL3
import Derived.Test.YtcnmehbkpaoolaaGreatDoorTxtd
import Derived.Test.YtcnmehbkpaoolaaGreatDoorQtd
import Derived.Test.YtcnmehbkpaoolaaGreatDoorIsk
namespace Go.Den
open Go.RowKit
set_option maxRecDepth 100000
theorem Awc(a b c d e f g:AV)(h:H):Au env 29 (fun e' ei=>Ak 1 [(0,.agg [a,b,c,d,e,f,g])] h e' ei)=some (.slice h.next 0 1 7 true,h.new (.row (Aj [a,b,c,d,e,f,g] 0 Z40) 7 0 103 true)):=by kernel_rfl
theorem A1q(x y:AV)(h:H):Az env .append [29,29] [x,y] h=Dv (some false) x y h 103 (Af2 103):=by kernel_rfl
theorem Az6:(Af2 103).size=7:=by kernel_rfl
theorem Ao4{n:Nat}(hn:n≤1099511627776):Db (Af2 103) n=true:=Akz (by kernel_rfl) (by kernel_rfl) hn
theorem A5i(l c l' c':Nat)(a b i:Int)(h:H):Bo env (env.ty 103) [(1,(.str l' c')),(2,.agg [.str l c,.int .i64 a,.int .i64 b]),(3,(.int .i64 i)),(4,(.int .i64 (Int.ofNat 1)))] h=some (.agg [.int .i64 (.ofNat 0),.str l' c',.str l c,.int .i64 a,.int .i64 b,.int .i64 i,.int .i64 (.ofNat 1)],h):=by kernel_rfl
theorem Ay7(i:Int)(h:H):Bo env (env.ty 103) [(0,(.int .i64 (Int.ofNat 8))),(3,(.int .i64 i))] h=some (.agg [.int .i64 (.ofNat 8),.str 0 0,.str 0 0,.int .i64 (.ofNat 0),.int .i64 (.ofNat 0),.int .i64 i,.int .i64 (.ofNat 0)],h):=by kernel_rfl
theorem Is7.set{t:Tm}{l:List AV}(ht:Is7 t l)(hl:l.length=7){j:Nat}(hj:j<7)(v:AV):Is7 (Aj [v] (0+j) t) (l.set j v):=by
 intro i hi
 rw[Av]
 by_cases e:i=j
 · subst e
   rw[if_pos (by simp),List.getD_eq_getElem?_getD,List.getD_eq_getElem?_getD,List.getElem?_set_self (by omega),show i-(0+i)=0 by omega];rfl
 · rw[if_neg (by simp;omega),ht i hi,List.getD_eq_getElem?_getD,List.getD_eq_getElem?_getD,List.getElem?_set_ne (fun e'=>e e'.symm)]
theorem Ct.avoid{e:TypeId}{sz lo:Nat}{h:H}{v:AV}{L:List (List AV)}{p:P}(hb:Ct e sz lo h v L)(hp:h.next.nat≤p.nat)(o n z:Nat)(b:Bool):v≠.slice p o n z b:=fun ev=>by
 rcases hb with⟨rfl,_⟩|⟨q,_,_,_,_,rfl,_,h2,_⟩
 · cases ev
 · cases ev;omega
def TrK(h:H)(p:P)(c:CT):Prop:=∃tt,h.at p=.row tt 7 0 103 true∧Is7 tt c.cells
def TkK(h:H)(p:P)(x:Dc):Prop:=∃tt,h.at p=.row tt 8 0 43 true∧∀i (hi:i<x.cells.length),Bn tt (0+i)=x.cells[i]
theorem TrK.at{h:H}{p:P}{c:CT}(t:TrK h p c):AtP h p 0 c.cells:=by
 obtain⟨tt,a,b⟩:=t
 exact Is7.at a b rfl
theorem TkK.at{h:H}{p:P}{x:Dc}(t:TkK h p x):AtP h p 0 x.cells:=by
 obtain⟨tt,a,b⟩:=t
 exact .row tt 8 0 43 true a (Nat.le_refl 8) b
theorem TrK.put{h:H}{p:P}{c c':CT}(t:TrK h p c){j:Nat}{v:AV}{K:H→Prop}(hj:j<7)(hv:v.one=true)(hc:c'.cells=c.cells.set j v)(hk:∀h',h'.next=h.next→(∀q,q≠p→h'.at q=h.at q)→TrK h' p c'→K h'):st1 (.ptr p (0+j)) v h K:=by
 obtain⟨tt,a,b⟩:=t
 refine Ty a (Nat.zero_le _) (by omega) hv ?_
 exact hk _ rfl (fun q hq=>Cr hq) ⟨_,Bx _ _ _,by rw[hc];exact b.set rfl hj v⟩
structure SrK(hE:H)(p5 p16:P)(v4 v5:AV)(O:List CT)(D:List DT)(xa:Dc)(c:CT)(h:H):Prop where
 out:Ct 103 7 hE.next.nat h v4 (O.map CT.cells)
 dg:Ct 48 4 hE.next.nat h v5 (D.map DT.cells)
 ext:Exh hE h
 tk:TkK h p5 xa
 tr:TrK h p16 c
 n5:p5.nat<h.next.nat
 n16:p16.nat<h.next.nat
 l16:hE.next.nat≤p16.nat
 ne:p5≠p16
 av:∀o n z b,v4≠.slice p16 o n z b
section
variable{hE:H}{p5 p16:P}{v4 v5:AV}{O:List CT}{D:List DT}{xa:Dc}{c:CT}{h:H}
theorem SrK.exh{h':H}(s:SrK hE p5 p16 v4 v5 O D xa c h)(x:Exh h h'):SrK hE p5 p16 v4 v5 O D xa c h':=by
 obtain⟨tt,a,b⟩:=s.tr
 obtain⟨t5,a5,b5⟩:=s.tk
 exact⟨s.out.ext x,s.dg.ext x,s.ext.trans x,⟨t5,by rw[x.2 _ s.n5];exact a5,b5⟩,⟨tt,by rw[x.2 _ s.n16];exact a,b⟩,Nat.lt_of_lt_of_le s.n5 x.1,Nat.lt_of_lt_of_le s.n16 x.1,s.l16,s.ne,s.av⟩
theorem SrK.put{c':CT}{j:Nat}{v:AV}{K:H→Prop}(s:SrK hE p5 p16 v4 v5 O D xa c h)(hj:j<7)(hv:v.one=true)(hc:c'.cells=c.cells.set j v)(hk:∀h',SrK hE p5 p16 v4 v5 O D xa c' h'→K h'):st1 (.ptr p16 (0+j)) v h K:=by
 refine s.tr.put hj hv hc fun h' hn hf ht=>hk h' ⟨?_,?_,?_,?_,ht,by rw[hn];exact s.n5,by rw[hn];exact s.n16,s.l16,s.ne,s.av⟩
 · rcases s.out with⟨e,e2⟩|⟨q,t,m,z,w,e,b1,b2,b3,b4⟩
   · exact .inl ⟨e,e2⟩
   · refine .inr ⟨q,t,m,z,w,e,b1,by rw[hn];exact b2,?_,b4⟩
     rw[hf q fun e'=>by rw[e'] at e;exact s.av _ _ _ _ e];exact b3
 · obtain⟨tt,a,_⟩:=s.tr
   refine s.dg.frame (by rw[hn];exact Nat.le_refl _) fun q _ _ t m z w e=>hf q fun e'=>?_
   rw[e',a] at e;cases e
 · have h1:=s.ext.1
   have h2:=s.l16
   refine⟨by rw[hn];exact h1,fun q hq=>?_⟩
   rw[hf q fun e=>by rw[e] at hq;omega,s.ext.2 q hq]
 · obtain⟨t5,a5,b5⟩:=s.tk
   exact⟨t5,by rw[hf _ s.ne];exact a5,b5⟩
theorem SrK.diag(s:SrK hE p5 p16 v4 v5 O D xa c h)(x:DT)(hl:D.length+1≤1099511627776){K:KV}(hk:∀v' h',SrK hE p5 p16 v4 v' O (D++[x]) xa c h'→K v' h'):
 oK (Bo env (env.ty 48) [(0,(.int .i64 (Int.ofNat 19))),(1,.agg [S x.file,.int .i64 x.f,.int .i64 x.t])] h) fun v h1=>oK (Au env 26 (fun e ei=>Ak 1 [(0,v)] h1 e ei)) fun v2 h2=>oK (Az env .append [26,26] [v5,v2] h2) K:=by
 rw[A0r,Ad,A1j,Ad,A1r]
 have x2:Exh h (h.new (.row (Aj [.int .i64 (.ofNat 19),S x.file,.int .i64 x.f,.int .i64 x.t] 0 Z48) 4 0 48 true)):=.new
 have s2:=s.exh x2
 have hlo:=s.ext.1
 refine Ac9 (ds:=DT.cells x) s2.dg rfl A97 (Aup (by rw[List.length_map];exact hl)) (by rw[Bh];omega) rfl rfl fun v' h3 b3 x3=>?_
 obtain⟨tt,a,b⟩:=s2.tr
 obtain⟨t5,a5,b5⟩:=s2.tk
 have n3:=x3.1
 refine hk v' h3 ⟨s2.out.kps x3 (by decide),by rw[List.map_append];exact b3,⟨Nat.le_trans s2.ext.1 x3.1,fun q hq=>?_⟩,⟨t5,?_,b5⟩,⟨tt,?_,b⟩,Nat.lt_of_lt_of_le s2.n5 n3,Nat.lt_of_lt_of_le s2.n16 n3,s.l16,s.ne,s.av⟩
 · rw[x3.2 q (Nat.lt_of_lt_of_le hq s2.ext.1) (.inl hq),s2.ext.2 q hq]
 · rw[x3.2 p5 s2.n5 (.inr fun t m z w e=>by rw[a5] at e;cases e)];exact a5
 · rw[x3.2 p16 s2.n16 (.inr fun t m z w e=>by rw[a] at e;cases e)];exact a
theorem Av3{vL:AV}{k:KV}{m j:Nat}(s:SrK hE p5 p16 v4 v5 O D xa c h)(hO:O.length≤200000)(hD:D.length≤200000)
 (h0:c.kind=0→∀v5' h',Exh hE h'→Ct 103 7 hE.next.nat h' v4 (O.map CT.cells)→Ct 48 4 hE.next.nat h' v5' ((D++[xa.dt]).map DT.cells)→(r17 W1 k m).a8 vL v4 v5' (Int.ofNat j) h')
 (h1:c.kind≠0→∀v4' h',Exh hE h'→Ct 103 7 hE.next.nat h' v4' ((O++[c]).map CT.cells)→Ct 48 4 hE.next.nat h' v5 (D.map DT.cells)→(r17 W1 k m).a8 vL v4' v5 (Int.ofNat j) h'):
 (r17 W1 k (m+1)).a7 vL v4 v5 (Int.ofNat j) (.ptr p5 0) (.ptr p16 0) h:=by
 refine Bcp ?_
 unfold An0
 rw[An]
 refine s.tr.at.ld1 (j:=0) (by show 0<7;decide) ?_
 show asI .i64 (.int .i64 (.ofNat c.kind)) _
 rw[Bu,Ld]
 refine Ap (fun e=>?_) (fun e=>?_)
 · have e:=of_decide_eq_true e
   rw[An]
   refine s.tk.at.sp ?_
   exact s.diag xa.dt (by omega) fun v' h' s'=>h0 e v' h' s'.ext s'.out s'.dg
 · have e:=of_decide_eq_false e
   refine s.tr.at.ldn rfl ?_
   have hlo:=s.ext.1
   show oK (Au env 29 (fun e ei=>Ak 1 [(0,.agg [.int .i64 (.ofNat c.kind),S c.text,S c.file,.int .i64 c.f,.int .i64 c.t,.int .i64 (.ofNat c.frm),.int .i64 (.ofNat c.cnt)])] h e ei)) _
   rw[Awc,Ad,A1q]
   have x2:Exh h (h.new (.row (Aj [.int .i64 (.ofNat c.kind),S c.text,S c.file,.int .i64 c.f,.int .i64 c.t,.int .i64 (.ofNat c.frm),.int .i64 (.ofNat c.cnt)] 0 Z40) 7 0 103 true)):=.new
   refine Ac9 (ds:=CT.cells c) (s.out.ext x2) rfl Az6 (Ao4 (by rw[List.length_map];omega)) (by rw[Bh];omega) rfl rfl fun v' h3 b3 x3=>?_
   refine h1 e v' h3 ⟨?_,fun q hq=>?_⟩ (by rw[List.map_append];exact b3) ((s.dg.ext x2).kps x3 (by decide))
   · exact Nat.le_trans hlo (Nat.le_trans x2.1 x3.1)
   · rw[x3.2 q (Nat.lt_of_lt_of_le hq (Nat.le_trans hlo x2.1)) (.inl hq),x2.2 q (Nat.lt_of_lt_of_le hq hlo),s.ext.2 q hq]
end
section
variable{hE h:H}{vL:AV}{L:List Dc}{i:Nat}{K:AV→Prop}(hr:Rd 8 hE vL (L.map Dc.cells))(x:Exh hE h)(hi:i<L.length)
include hr x hi
theorem Rd.kdR(hk:K (.int .i64 L[i].kind)):Dd 8 i vL fun a=>As 0 a fun a=>Go.Den.ld1 a h K:=by
 have hi':i<(L.map Dc.cells).length:=by rw[List.length_map];exact hi
 refine(hr.ext x).fld (j:=0) hi' (by rw[Gx hi hi'];show 0<8;decide) ?_
 simp only[Gx hi hi'];exact hk
theorem Rd.txR(hk:K (S L[i].text)):Dd 8 i vL fun a=>As 1 a fun a=>Go.Den.ld1 a h K:=by
 have hi':i<(L.map Dc.cells).length:=by rw[List.length_map];exact hi
 refine(hr.ext x).fld (j:=1) hi' (by rw[Gx hi hi'];show 1<8;decide) ?_
 simp only[Gx hi hi'];exact hk
theorem Rd.spR(hk:K (.agg [S L[i].file,.int .i64 L[i].f,.int .i64 L[i].t])):Dd 8 i vL fun a=>As 3 a fun a=>Go.Den.ldn 3 a h K:=by
 have hi':i<(L.map Dc.cells).length:=by rw[List.length_map];exact hi
 refine(hr.ext x).elem hi' fun q o _ _ ha=>?_
 rw[Gx hi hi'] at ha
 rw[An]
 exact ha.Aqk (j:=3) (c:=3) (by show 3+3≤8;decide) hk
end
theorem A49(x:Dc)(b:List UInt8)(k:Nat):g0.add x b k=⟨(Ah x.text).1,false,b,1,k,[]⟩:=by
 unfold GS.add g0
 by_cases e:(Ah x.text).1=[]
 · rw[if_pos (.inl e),e];rfl
 · rw[if_neg (fun q=>q.elim e e),if_pos rfl];rfl
theorem Ai9{s b:List UInt8}(h:Fj s=some b):(Ah s).2=true:=by
 unfold Fj at h
 split at h
 · assumption
 · cases h
theorem Arh(g:GS)(x:Dc)(b:List UInt8)(k:Nat):(g.add x b k).first=if g.first=[] then(Ah x.text).1 else g.first:=by
 unfold GS.add
 by_cases e1:(Ah x.text).1=[]∨(Ah x.text).1=g.first
 · rw[if_pos e1]
   show g.first=_
   by_cases e:g.first=[]
   · rw[if_pos e]
     rcases e1 with q|q
     · rw[e,q]
     · exact q.symm
   · rw[if_neg e]
 · rw[if_neg e1]
   by_cases e:g.first=[]
   · simp only[if_pos e]
   · simp only[if_neg e]
     split<;>rfl
section
variable{hE:H}{L:List Dc}{vL v4:AV}{p5 p16:P}{O:List CT}{D:List DT}{a:Nat}{xa:Dc}{G:GS}{R N:Nat}{k:KV}
 (hr:Rd 8 hE vL (L.map Dc.cells)) (hLen:L.length≤400) (htx:∀x∈L,x.text.length≤1000) (hD:D.length≤180000)
 (hfin:∀m h' v5',R≤m→m≤N→SrK hE p5 p16 v4 v5' O (D++G.ds) xa ⟨6,G.first++Mt G.acc,xa.file,xa.f,xa.t,a,G.cnt⟩ h'→(r17 W1 k m).a7 vL v4 v5' (Int.ofNat (a+G.used-1)) (.ptr p5 0) (.ptr p16 0) h')
include hr hLen htx hD hfin
omit hr hLen htx hD in
theorem Bf5{m:Nat}{h:H}{v5:AV}(hm:R≤m)(hN:m≤N)(hacc:G.acc.length≤400000)(hfl:G.first.length≤2)(s:SrK hE p5 p16 v4 v5 O (D++G.ds) xa ⟨0,xa.text,xa.file,xa.f,xa.t,a,G.cnt⟩ h):
 (r17 W1 k (m+1)).a6 vL v4 v5 (.ptr p5 0) (.ptr p16 0) G.acc.length (enc G.acc) G.first.length (enc G.first) (Int.ofNat (a+G.used-1)) h:=by
 refine Bcq ?_
 unfold An1
 rw[An]
 refine s.put (c':=⟨6,xa.text,xa.file,xa.f,xa.t,a,G.cnt⟩) (by decide) rfl rfl fun h1 s1=>?_
 refine c24 (s:=G.acc) (by omega) fun h2 x2=>?_
 have hq:=Ahj G.acc
 rw[Bp]
 refine Wn (s:=G.first) (t:=Mt G.acc) (by omega) ?_
 rw[An]
 exact(s1.exh x2).put (c':=⟨6,G.first++Mt G.acc,xa.file,xa.f,xa.t,a,G.cnt⟩) (by decide) rfl rfl fun h3 s3=>hfin m h3 v5 hm hN s3
theorem Bf6(n:Nat):∀(i:Nat)(g:GS){h:H}{v5:AV},n≤N→4*(L.length-i)+R+2≤n→a<i→i≤L.length→0<g.used→g.used+a≤i→g.cnt≤i-a→g.acc.length≤1000*g.cnt→g.first.length≤2→g.ds.length≤i-a→Dj (L.drop i) (i-a) g=G→SrK hE p5 p16 v4 v5 O (D++g.ds) xa ⟨0,xa.text,xa.file,xa.f,xa.t,a,g.cnt⟩ h→
 (r17 W1 k n).a2 vL v4 v5 (.ptr p5 0) (.ptr p16 0) g.acc.length (enc g.acc) g.first.length (enc g.first) g.told (Int.ofNat (a+g.used-1)) (Int.ofNat i) h:=by
 induction n using Nat.strongRecOn with
 |_ n ih=>
  intro i g h v5 hnN hn hai hi hu0 hu hc hacc hfl hds hG s
  obtain⟨n,rfl⟩:∃m,n=m+2:=⟨n-2,by omega⟩
  have fin:Dj (L.drop i) (i-a) g=g→(r17 W1 k (n+1)).a6 vL v4 v5 (.ptr p5 0) (.ptr p16 0) g.acc.length (enc g.acc) g.first.length (enc g.first) (Int.ofNat (a+g.used-1)) h:=fun hg=>by
   rw[hg] at hG
   subst hG
   exact Bf5 hfin (by omega) (by omega) (by omega) hfl s
  refine Bcu ?_
  unfold An5
  rw[hr.len,List.length_map,ilt]
  refine Ap (fun e=>?_) (fun e=>?_)
  · have e:i<L.length:=of_decide_eq_true e
    have hx:=htx _ (List.getElem_mem e)
    have hdrop:L.drop i=L[i]::L.drop (i+1):=List.drop_eq_getElem_cons e
    rw[hdrop] at hG fin
    unfold Dj at hG fin
    rw[Aq]
    refine hr.kdR s.ext e ?_
    rw[Bu,Po]
    have next:∀(m:Nat)(g':GS)(h':H)(v5':AV),m≤n→4*(L.length-(i+1))+R+2≤m→0<g'.used→g'.used+a≤i+1→g'.cnt≤i+1-a→g'.acc.length≤1000*g'.cnt→g'.first.length≤2→g'.ds.length≤i+1-a→Dj (L.drop (i+1)) (i-a+1) g'=G→SrK hE p5 p16 v4 v5' O (D++g'.ds) xa ⟨0,xa.text,xa.file,xa.f,xa.t,a,g'.cnt⟩ h'→
     (r17 W1 k (m+1)).a5 vL v4 v5' (.ptr p5 0) (.ptr p16 0) g'.acc.length (enc g'.acc) g'.first.length (enc g'.first) g'.told (Int.ofNat (a+g'.used-1)) (Int.ofNat i) h':=fun m g' h' v5' hmn hm b0 b1 b2 b3 b4 b5 b6 b7=>by
     refine Bcr ?_
     unfold An2
     rw[Ea,Co (by omega),Al]
     exact ih m (by omega) (i+1) g' (by omega) hm (by omega) e b0 b1 b2 b3 b4 b5 (by rw[show i+1-a=i-a+1 by omega];exact b6) b7
    refine Ap (fun e7=>?_) (fun e7=>?_)
    · have e7:L[i].kind=7:=of_decide_eq_true e7
      rw[if_pos e7] at hG
      exact next n g h v5 (Nat.le_refl _) (by omega) hu0 (by omega) (by omega) hacc hfl (by omega) hG s
    · have e7:¬L[i].kind=7:=of_decide_eq_false e7
      rw[if_neg e7] at hG fin
      rw[Aq]
      refine hr.txR s.ext e ?_
      rw[Bp]
      refine Di (c41 L[i].text (by omega)) ?_ rfl (by cases Fj L[i].text<;>rfl)
      have hbyt:∃w,Tl (Fj L[i].text)=.tuple [S w,.bool (Fj L[i].text).isSome]∧∀b,Fj L[i].text=some b→w=b:=by
       cases Fj L[i].text with
       |none=>exact⟨[],rfl,fun b h=>by cases h⟩
       |some b=>exact⟨b,rfl,fun b' h=>by cases h;rfl⟩
      obtain⟨w,hw1,hw2⟩:=hbyt
      rw[hw1,Dn,Bp,Du,Bt,Aq]
      refine hr.kdR s.ext e ?_
      rw[Bu,Po]
      refine Jc ?_
      refine Ap (fun e4=>?_) (fun e4=>?_)
      · refine fin ?_
        rw[Bj,Bj,Bool.or_eq_true,Bool.not_eq_true',Bool.not_eq_true'] at e4
        rcases e4 with e4|e4
        · rw[if_neg (show¬L[i].kind=4 from of_decide_eq_false e4)]
        · have hn:Fj L[i].text=none:=by cases hb:Fj L[i].text with
           |none=>rfl
           |some b=>rw[hb] at e4;cases e4
          rw[hn]
          split<;>rfl
      · rw[Bj,Bj,Bool.or_eq_false_iff,Bool.not_eq_false',Bool.not_eq_false'] at e4
        have ek:L[i].kind=4:=of_decide_eq_true e4.1
        obtain⟨b,hb⟩:=Option.isSome_iff_exists.1 e4.2
        have hwb:w=b:=hw2 b hb
        subst hwb
        rw[if_pos ek,hb] at hG
        simp only[] at hG
        have hbl:=Aay hb
        have hll:=Qi L[i].text
        rw[Aq]
        refine hr.txR s.ext e ?_
        rw[Bp]
        refine c42 (by omega) ?_
        rw[Ahn (Ai9 hb),Bp]
        obtain⟨m,rfl⟩:∃m,n=m+2:=⟨n-2,by omega⟩
        have toA4:∀(T:Bool)(E:List DT)(h':H)(v5':AV),g.add L[i] w (i-a+1)=⟨if g.first=[] then(Ah L[i].text).1 else g.first,T,g.acc++w,g.cnt+1,i-a+1,E⟩→E.length≤g.ds.length+1→SrK hE p5 p16 v4 v5' O (D++E) xa ⟨0,xa.text,xa.file,xa.f,xa.t,a,g.cnt⟩ h'→
         (r17 W1 k (m+3)).a4 vL v4 v5' (.ptr p5 0) (.ptr p16 0) g.acc.length (enc g.acc) g.first.length (enc g.first) T (Int.ofNat i) w.length (enc w) (Ah L[i].text).1.length (enc (Ah L[i].text).1) h':=fun T E h' v5' hadd hE' s'=>by
         have key:∀F,F=(if g.first=[] then(Ah L[i].text).1 else g.first)→(r17 W1 k (m+2)).a3 vL v4 v5' (.ptr p5 0) (.ptr p16 0) g.acc.length (enc g.acc) F.length (enc F) T (Int.ofNat i) w.length (enc w) h':=fun F hF=>by
          rw[←hF] at hadd
          have hFl:F.length≤2:=by rw[hF];split<;>omega
          refine Bct ?_
          unfold An4
          refine Wn (s:=g.acc) (t:=w) (by omega) ?_
          rw[An]
          refine s'.tr.at.ld1 (j:=6) (by show 6<7;decide) ?_
          show asI .i64 (.int .i64 (.ofNat g.cnt)) _
          rw[Bu,Ea,Co (by omega),Al,An]
          refine s'.put (c':=⟨0,xa.text,xa.file,xa.f,xa.t,a,g.cnt+1⟩) (by decide) rfl rfl fun h2 s2=>?_
          have:=next m ⟨F,T,g.acc++w,g.cnt+1,i-a+1,E⟩ h2 v5' (by omega) (by omega) (Nat.succ_pos _) (by show i-a+1+a≤i+1;omega) (by show g.cnt+1≤i+1-a;omega) (by show(g.acc++w).length≤1000*(g.cnt+1);rw[List.length_append];omega) hFl (by show E.length≤i+1-a;omega) (by rw[←hadd];exact hG) s2
          rw[show a+(⟨F,T,g.acc++w,g.cnt+1,i-a+1,E⟩:GS).used-1=i by show a+(i-a+1)-1=i;omega] at this
          exact this
         refine Bcs ?_
         unfold An3
         rw[Fb]
         refine Ap (fun q=>?_) (fun q=>?_)
         · exact key _ (by rw[if_pos (of_decide_eq_true q)])
         · exact key _ (by rw[if_neg (of_decide_eq_false q)])
        have hf:=Arh g L[i] w (i-a+1)
        refine Sp (Sp (Sp ?_))
        rw[Fb,Fb,Cq,Bj,Bj,Bj,Bj]
        have hadd:g.add L[i] w (i-a+1)=⟨if g.first=[] then(Ah L[i].text).1 else g.first,if(Ah L[i].text).1≠[]∧g.first≠[]∧(Ah L[i].text).1≠g.first∧g.told=false then true else g.told,g.acc++w,g.cnt+1,i-a+1,if(Ah L[i].text).1≠[]∧g.first≠[]∧(Ah L[i].text).1≠g.first∧g.told=false then g.ds++[L[i].dt] else g.ds⟩:=by
         rw[←hf]
         unfold GS.add
         by_cases q1:(Ah L[i].text).1=[]∨(Ah L[i].text).1=g.first
         · rw[if_pos q1,if_neg (fun q=>q1.elim q.1 q.2.2.1),if_neg (fun q=>q1.elim q.1 q.2.2.1)]
         · rw[if_neg q1]
           by_cases q2:g.first=[]
           · rw[if_pos q2,if_neg (fun q=>q.2.1 q2),if_neg (fun q=>q.2.1 q2)]
           · rw[if_neg q2]
             by_cases q3:g.told=true
             · rw[if_pos q3,if_neg (fun q=>by rw[q3] at q;cases q.2.2.2),if_neg (fun q=>by rw[q3] at q;cases q.2.2.2)]
             · have q4:(Ah L[i].text).1≠[]∧g.first≠[]∧(Ah L[i].text).1≠g.first∧g.told=false:=⟨fun q=>q1 (.inl q),q2,fun q=>q1 (.inr q),by simpa using q3⟩
               rw[if_neg q3,if_pos q4,if_pos q4]
        refine Ap (fun q=>?_) (fun q=>?_)
        · have q4:(Ah L[i].text).1≠[]∧g.first≠[]∧(Ah L[i].text).1≠g.first∧g.told=false:=by simpa[and_assoc] using q
          rw[if_pos q4,if_pos q4] at hadd
          rw[Aq]
          refine hr.spR s.ext e ?_
          refine s.diag L[i].dt (by rw[List.length_append];omega) fun v' h' s'=>?_
          exact toA4 true (g.ds++[L[i].dt]) h' v' hadd (by simp) (by rw[←List.append_assoc];exact s')
        · have q4:¬((Ah L[i].text).1≠[]∧g.first≠[]∧(Ah L[i].text).1≠g.first∧g.told=false):=fun q4=>by
           rw[decide_eq_false q4.1,decide_eq_false q4.2.1,decide_eq_false q4.2.2.1,q4.2.2.2] at q;cases q
          rw[if_neg q4,if_neg q4] at hadd
          exact toA4 g.told g.ds h v5 hadd (by omega) s
  · have e:i=L.length:=by have:=of_decide_eq_false e;omega
    refine fin ?_
    rw[e,List.drop_length];rfl
end
section
variable{hE:H}{L:List Dc}{vL:AV}{k:KV}(hr:RdT hE vL L)(hLen:L.length≤400)(htx:∀x∈L,x.text.length≤1000)
include hr hLen htx
theorem Bf7(n:Nat):∀(i:Nat)(O:List CT)(D:List DT){v4 v5:AV}{h:H},(4*L.length+12)*(L.length-i)+5≤n→i≤L.length→O.length≤i→D.length≤402*i→Exh hE h→Ct 103 7 hE.next.nat h v4 (O.map CT.cells)→Ct 48 4 hE.next.nat h v5 (D.map DT.cells)→
 (∀h' vo vd,Exh hE h'→Ct 103 7 hE.next.nat h' vo ((O++(Ck (L.drop i) i 0).1).map CT.cells)→Ct 48 4 hE.next.nat h' vd ((D++(Ck (L.drop i) i 0).2).map DT.cells)→k (.tuple [vo,vd]) h')→
 (r17 W1 k n).a1 vL v4 v5 (Int.ofNat i) h:=by
 induction n using Nat.strongRecOn with
 |_ n ih=>
  intro i O D v4 v5 h hn hi hOl hDl x hb4 hb5 hk
  obtain⟨n,rfl⟩:∃m,n=m+1:=⟨n-1,by omega⟩
  refine Bcv ?_
  unfold An6
  rw[hr.len,ilt]
  refine Ap (fun e=>?_) (fun e=>?_)
  · have e:i<L.length:=of_decide_eq_true e
    have hdrop:L.drop i=L[i]::L.drop (i+1):=List.drop_eq_getElem_cons e
    have hx:=htx _ (List.getElem_mem e)
    have hmul:(4*L.length+12)*(L.length-i)=(4*L.length+12)*(L.length-(i+1))+(4*L.length+12):=by
     rw[show L.length-i=(L.length-(i+1))+1 by omega,Nat.mul_succ]
    rw[Aq]
    refine(hr.rd e).tok x e (Dt ?_)
    refine Afi (e:=43) (zs:=[(.int .i64 (Int.ofNat 0)),(.str 0 0),(.bool false),(.str 0 0),(.int .i64 (Int.ofNat 0)),(.int .i64 (Int.ofNat 0)),(.bool false),.Af]) rfl rfl (by decide) fun h1 x1 n1 a1=>?_
    have t1:TkK h1 h.next L[i]:=⟨_,a1,fun j hj=>by
     rw[Av,if_pos ⟨by omega,by omega⟩,List.getD_eq_getElem?_getD,show 0+j-0=j by omega,List.getElem?_eq_getElem hj];rfl⟩
    rw[An]
    refine t1.at.tx ?_
    rw[Bp,An]
    refine t1.at.sp ?_
    show oK (Bo env (env.ty 103) [(1,(.str L[i].text.length (enc L[i].text))),(2,.agg [.str L[i].file.length (enc L[i].file),.int .i64 L[i].f,.int .i64 L[i].t]),(3,(.int .i64 (Int.ofNat i))),(4,(.int .i64 (Int.ofNat 1)))] h1) _
    rw[A5i,Ad]
    refine Dt ?_
    refine Afi (e:=103) (zs:=[(.int .i64 (Int.ofNat 0)),(.str 0 0),(.str 0 0),(.int .i64 (Int.ofNat 0)),(.int .i64 (Int.ofNat 0)),(.int .i64 (Int.ofNat 0)),(.int .i64 (Int.ofNat 0))]) rfl rfl (by decide) fun h2 x2 n2 a2=>?_
    have s2:SrK hE h.next h1.next v4 v5 O D L[i] ⟨0,L[i].text,L[i].file,L[i].f,L[i].t,i,1⟩ h2:=by
     obtain⟨tt,b1,b2⟩:=t1
     refine⟨(hb4.ext x1).ext x2,(hb5.ext x1).ext x2,(x.trans x1).trans x2,⟨tt,by rw[x2.2 _ n1];exact b1,b2⟩,⟨_,a2,Jx _ rfl _⟩,Nat.lt_of_lt_of_le n1 x2.1,n2,Nat.le_trans x.1 x1.1,fun e'=>by rw[e'] at n1;omega,hb4.avoid x1.1⟩
    rw[An]
    refine s2.tk.at.kd ?_
    rw[Bu,Po,Po,Po,Po,Po,Po]
    have hconv:Ck (L.drop i) i 0=(if L[i].kind=4 then
     (if(Dj (L[i]::L.drop (i+1)) 0 g0).cnt=0 then((Ck (L.drop (i+1)) (i+1) 0).1,L[i].dt::(Ck (L.drop (i+1)) (i+1) 0).2)
     else(⟨6,(Dj (L[i]::L.drop (i+1)) 0 g0).first++Mt (Dj (L[i]::L.drop (i+1)) 0 g0).acc,L[i].file,L[i].f,L[i].t,i,(Dj (L[i]::L.drop (i+1)) 0 g0).cnt⟩::(Ck (L.drop (i+1)) (i+1) ((Dj (L[i]::L.drop (i+1)) 0 g0).used-1)).1,(Dj (L[i]::L.drop (i+1)) 0 g0).ds++(Ck (L.drop (i+1)) (i+1) ((Dj (L[i]::L.drop (i+1)) 0 g0).used-1)).2))
     else if L[i].kind=7 then Ck (L.drop (i+1)) (i+1) 0
     else match Ds L[i] with
      |none=>((Ck (L.drop (i+1)) (i+1) 0).1,L[i].dt::(Ck (L.drop (i+1)) (i+1) 0).2)
      |some p=>(⟨p.1,p.2,L[i].file,L[i].f,L[i].t,i,1⟩::(Ck (L.drop (i+1)) (i+1) 0).1,(Ck (L.drop (i+1)) (i+1) 0).2)):=by
     rw[hdrop,Ck]
     rfl
    rw[hconv] at hk
    have go8:∀(m j:Nat)(O':List CT)(D':List DT)(v4' v5':AV)(h':H),m≤n→(4*L.length+12)*(L.length-(j+1))+6≤m→j<L.length→O'.length≤j+1→D'.length≤402*(j+1)→Exh hE h'→Ct 103 7 hE.next.nat h' v4' (O'.map CT.cells)→Ct 48 4 hE.next.nat h' v5' (D'.map DT.cells)→
     (∀h'' vo vd,Exh hE h''→Ct 103 7 hE.next.nat h'' vo ((O'++(Ck (L.drop (j+1)) (j+1) 0).1).map CT.cells)→Ct 48 4 hE.next.nat h'' vd ((D'++(Ck (L.drop (j+1)) (j+1) 0).2).map DT.cells)→k (.tuple [vo,vd]) h'')→(r17 W1 k m).a8 vL v4' v5' (Int.ofNat j) h':=fun m j O' D' v4' v5' h' hmn hm hj b1 b2 b3 b4 b5 b6=>by
     obtain⟨m,rfl⟩:∃q,m=q+1:=⟨m-1,by omega⟩
     refine Bco ?_
     unfold Anz
     rw[Ea,Co (by omega),Al]
     exact ih m (by omega) (j+1) O' D' (by omega) hj b1 b2 b3 b4 b5 b6
    have tell:(∀h'' vo vd,Exh hE h''→Ct 103 7 hE.next.nat h'' vo ((O++(Ck (L.drop (i+1)) (i+1) 0).1).map CT.cells)→Ct 48 4 hE.next.nat h'' vd ((D++L[i].dt::(Ck (L.drop (i+1)) (i+1) 0).2).map DT.cells)→k (.tuple [vo,vd]) h'')→∀c h',c.kind=0→SrK hE h.next h1.next v4 v5 O D L[i] c h'→(r17 W1 k n).a7 vL v4 v5 (Int.ofNat i) (.ptr h.next 0) (.ptr h1.next 0) h':=fun hk c h' hc s=>by
     obtain⟨m,rfl⟩:∃q,n=q+1:=⟨n-1,by omega⟩
     refine Av3 s (by omega) (by omega) (fun _ v5' h' y1 y2 y3=>?_) (fun q=>absurd hc q)
     refine go8 m i O (D++[L[i].dt]) v4 v5' h' (by omega) (by omega) e (by omega) (by rw[List.length_append,List.length_singleton];omega) y1 y2 y3 fun h' vo vd y1 y2 y3=>hk h' vo vd y1 y2 ?_
     rw[List.append_assoc] at y3;exact y3
    have go7:∀(c:CT)(h':H),(Ds L[i]=none→c.kind=0)→(∀p,Ds L[i]=some p→c=⟨p.1,p.2,L[i].file,L[i].f,L[i].t,i,1⟩)→¬L[i].kind=4→¬L[i].kind=7→SrK hE h.next h1.next v4 v5 O D L[i] c h'→(r17 W1 k n).a7 vL v4 v5 (Int.ofNat i) (.ptr h.next 0) (.ptr h1.next 0) h':=fun c h' q0 q1 q4 q7 s=>by
     rw[if_neg q4,if_neg q7] at hk
     cases hp:Ds L[i] with
     |none=>
      rw[hp] at hk
      exact tell hk c h' (q0 hp) s
     |some p=>
      rw[hp] at hk
      have hc:=q1 p hp
      have hp0:=Acs hp
      obtain⟨m,rfl⟩:∃q,n=q+1:=⟨n-1,by omega⟩
      refine Av3 s (by omega) (by omega) (fun q=>absurd q (by rw[hc];exact hp0)) (fun _ v4' h' y1 y2 y3=>?_)
      refine go8 m i (O++[c]) D v4' v5 h' (by omega) (by omega) e (by rw[List.length_append,List.length_singleton];omega) (by omega) y1 y2 y3 fun h' vo vd y1 y2 y3=>hk h' vo vd y1 ?_ y3
      rw[List.append_assoc,hc] at y2;exact y2
    refine Ap (fun e7=>?_) (fun e7=>?_)
    · have e7:L[i].kind=7:=of_decide_eq_true e7
      rw[if_neg (show¬L[i].kind=4 by omega),if_pos e7] at hk
      exact go8 n i O D v4 v5 h2 (Nat.le_refl _) (by omega) e (by omega) (by omega) s2.ext s2.out s2.dg hk
    have e7:¬L[i].kind=7:=of_decide_eq_false e7
    refine Ap (fun e1=>?_) (fun e1=>?_)
    · have e1:L[i].kind=1:=of_decide_eq_true e1
      rw[An]
      refine s2.put (c':=⟨1,L[i].text,L[i].file,L[i].f,L[i].t,i,1⟩) (by decide) rfl rfl fun h3 s3=>?_
      rw[An]
      refine s3.tk.at.tx ?_
      rw[Bp]
      refine c21 L[i].text fun h4 x4=>?_
      have s4:=s3.exh x4
      rw[Bt]
      refine Ap (fun q=>?_) (fun q=>?_)
      · have hp:Ds L[i]=some (2,L[i].text):=by unfold Ds;rw[if_pos e1,if_pos (of_decide_eq_true q)]
        rw[An]
        refine s4.put (c':=⟨2,L[i].text,L[i].file,L[i].f,L[i].t,i,1⟩) (by decide) rfl rfl fun h5 s5=>?_
        exact go7 _ _ (fun q=>by rw[hp] at q;cases q) (fun p q=>by rw[hp] at q;cases q;rfl) (by omega) e7 s5
      · have hp:Ds L[i]=some (1,L[i].text):=by unfold Ds;rw[if_pos e1,if_neg (of_decide_eq_false q)]
        exact go7 _ _ (fun q=>by rw[hp] at q;cases q) (fun p q=>by rw[hp] at q;cases q;rfl) (by omega) e7 s4
    have e1:¬L[i].kind=1:=of_decide_eq_false e1
    refine Ap (fun e2=>?_) (fun e2=>?_)
    · have e2:L[i].kind=2:=of_decide_eq_true e2
      rw[An]
      refine s2.tk.at.tx ?_
      rw[Bp]
      obtain⟨na,nb,hnv⟩:=Atk (Afg L[i].text)
      refine Di (c37 L[i].text (by omega)) ?_ rfl (by rw[Ahu,hnv];rfl)
      rw[Ahu,hnv,Dn,Du,Bt]
      refine Dt ?_
      refine Wd (e:=58) (zs:=[(.int .u64 (Int.ofNat 0)),(.bool false)]) rfl rfl (by decide) fun h3 x3 _ _=>?_
      have s3:=s2.exh x3
      refine Ap (fun q=>?_) (fun q=>?_)
      · have hp:Ds L[i]=some (3,L[i].text):=by unfold Ds;rw[if_neg e1,if_pos e2,if_pos q]
        rw[An]
        refine s3.put (c':=⟨3,L[i].text,L[i].file,L[i].f,L[i].t,i,1⟩) (by decide) rfl rfl fun h5 s5=>?_
        exact go7 _ _ (fun q=>by rw[hp] at q;cases q) (fun p q=>by rw[hp] at q;cases q;rfl) (by omega) e7 s5
      · rw[An]
        refine s3.tk.at.tx ?_
        rw[Bp]
        refine Di (c38 L[i].text (by omega)) ?_
        rw[Bt]
        refine Ap (fun q2=>?_) (fun q2=>?_)
        · have hp:Ds L[i]=some (4,L[i].text):=by unfold Ds;rw[if_neg e1,if_pos e2,if_neg (by rw[q];decide),if_pos q2]
          rw[An]
          refine s3.put (c':=⟨4,L[i].text,L[i].file,L[i].f,L[i].t,i,1⟩) (by decide) rfl rfl fun h5 s5=>?_
          exact go7 _ _ (fun q=>by rw[hp] at q;cases q) (fun p q=>by rw[hp] at q;cases q;rfl) (by omega) e7 s5
        · have hp:Ds L[i]=none:=by unfold Ds;rw[if_neg e1,if_pos e2,if_neg (by rw[q];decide),if_neg (by rw[q2];decide)]
          exact go7 _ _ (fun _=>rfl) (fun p q=>by rw[hp] at q;cases q) (by omega) e7 s3
    have e2:¬L[i].kind=2:=of_decide_eq_false e2
    refine Ap (fun e3=>?_) (fun e3=>?_)
    · have e3:L[i].kind=3:=of_decide_eq_true e3
      rw[An]
      refine s2.tk.at.tx ?_
      rw[Bp]
      obtain⟨na,nb,hnv⟩:=Apd (Jj L[i].text)
      refine Di (c39 L[i].text (by omega)) ?_ rfl (by rw[hnv];rfl)
      rw[hnv,Dn,Du,Bt]
      refine Dt ?_
      refine Wd (e:=58) (zs:=[(.int .u64 (Int.ofNat 0)),(.bool false)]) rfl rfl (by decide) fun h3 x3 _ _=>?_
      have s3:=s2.exh x3
      refine Ap (fun q=>?_) (fun q=>?_)
      · have hp:Ds L[i]=some (5,L[i].text):=by unfold Ds;rw[if_neg e1,if_neg e2,if_pos e3,if_pos q]
        rw[An]
        refine s3.put (c':=⟨5,L[i].text,L[i].file,L[i].f,L[i].t,i,1⟩) (by decide) rfl rfl fun h5 s5=>?_
        exact go7 _ _ (fun q=>by rw[hp] at q;cases q) (fun p q=>by rw[hp] at q;cases q;rfl) (by omega) e7 s5
      · have hp:Ds L[i]=none:=by unfold Ds;rw[if_neg e1,if_neg e2,if_pos e3,if_neg (by rw[q];decide)]
        exact go7 _ _ (fun _=>rfl) (fun p q=>by rw[hp] at q;cases q) (by omega) e7 s3
    have e3:¬L[i].kind=3:=of_decide_eq_false e3
    refine Ap (fun e5=>?_) (fun e5=>?_)
    · have e5:L[i].kind=5:=of_decide_eq_true e5
      have hp5:Ds L[i]=(Iz L[i].text).map fun s=>(7,s):=by unfold Ds;rw[if_neg e1,if_neg e2,if_neg e3,if_pos e5]
      rw[An]
      refine s2.tk.at.tx ?_
      rw[Bp]
      refine c40 L[i].text ?_
      unfold usV
      cases hu:Iz L[i].text with
      |none=>
       rw[hu] at hp5
       have hp:Ds L[i]=none:=hp5
       simp only[]
       rw[Dn,Bp,Du,Bt,An]
       refine s2.put (c':=⟨0,L[i].text,L[i].file,L[i].f,L[i].t,i,1⟩) (by decide) rfl rfl fun h3 s3=>?_
       exact Cm rfl (go7 _ _ (fun _=>rfl) (fun p q=>by rw[hp] at q;cases q) (by omega) e7 s3)
      |some u=>
       rw[hu] at hp5
       have hp:Ds L[i]=some (7,u):=hp5
       simp only[]
       rw[Dn,Bp,Du,Bt,An]
       refine s2.put (c':=⟨0,u,L[i].file,L[i].f,L[i].t,i,1⟩) (by decide) rfl rfl fun h3 s3=>?_
       refine Df rfl ?_
       rw[An]
       refine s3.put (c':=⟨7,u,L[i].file,L[i].f,L[i].t,i,1⟩) (by decide) rfl rfl fun h5 s5=>?_
       exact go7 _ _ (fun q=>by rw[hp] at q;cases q) (fun p q=>by rw[hp] at q;cases q;rfl) (by omega) e7 s5
    have e5:¬L[i].kind=5:=of_decide_eq_false e5
    refine Ap (fun e4=>?_) (fun e4=>?_)
    · have e4:L[i].kind=4:=of_decide_eq_true e4
      rw[if_pos e4,←hdrop] at hk
      rw[An]
      refine s2.tk.at.tx ?_
      rw[Bp]
      refine Di (c41 L[i].text (by omega)) ?_ rfl (by cases Fj L[i].text<;>rfl)
      have hga:Dj (L.drop i) 0 g0=(match Fj L[i].text with
       |none=>g0
       |some b=>Dj (L.drop (i+1)) (0+1) (g0.add L[i] b (0+1))):=by
       rw[hdrop]
       conv=>lhs;unfold Dj
       rw[if_neg e7,if_pos e4]
       rfl
      have hbyt:∃w,Tl (Fj L[i].text)=.tuple [S w,.bool (Fj L[i].text).isSome]∧∀b,Fj L[i].text=some b→w=b:=by
       cases Fj L[i].text with
       |none=>exact⟨[],rfl,fun b h=>by cases h⟩
       |some b=>exact⟨b,rfl,fun b' h=>by cases h;rfl⟩
      obtain⟨w,hw1,hw2⟩:=hbyt
      rw[hw1,Dn,Bp,Du,Bt]
      cases hb:Fj L[i].text with
      |none=>
       rw[hb] at hga
       have hga:Dj (L.drop i) 0 g0=g0:=hga
       rw[hga,if_pos (show g0.cnt=0 from rfl)] at hk
       refine Df rfl ?_
       exact tell hk _ h2 rfl s2
      |some w'=>
       have hww:w=w':=hw2 w' hb
       subst hww
       rw[hb] at hga
       have hga:Dj (L.drop i) 0 g0=Dj (L.drop (i+1)) 1 ⟨(Ah L[i].text).1,false,w,1,1,[]⟩:=by rw[←A49];exact hga
       refine Cm rfl ?_
       rw[An]
       refine s2.tk.at.tx ?_
       rw[Bp]
       refine c42 (by omega) ?_
       rw[Ahn (Ai9 hb),Bp,Ea,Co (by omega),Al]
       have hbl:=Aay hb
       have hll:=Qi L[i].text
       have gb:=Kj (L.drop i) 0 g0 (Nat.le_refl _) (Nat.le_refl _) (Nat.le_refl _) (fun h=>absurd rfl h)
       rw[List.length_drop,Nat.zero_add] at gb
       have gc:(Dj (L.drop i) 0 g0).cnt≠0:=by
        intro q
        rw[hga] at q
        have:=(Yl _ _ _ q).1
        cases this
       have hu:=gb.2.2.2 gc
       rw[if_neg gc] at hk
       have hsk:Ck (L.drop (i+1)) (i+1) ((Dj (L.drop i) 0 g0).used-1)=Ck (L.drop (i+(Dj (L.drop i) 0 g0).used)) (i+(Dj (L.drop i) 0 g0).used) 0:=by
        rw[Tk _ _ _ (by rw[List.length_drop];omega),List.drop_drop]
        congr 1
        · congr 1;omega
        · omega
       rw[hsk] at hk
       generalize hGd:Dj (L.drop i) 0 g0=G at hk gb gc hu hga
       have hle:(4*L.length+12)*(L.length-(i+G.used))≤(4*L.length+12)*(L.length-(i+1)):=Nat.mul_le_mul_left _ (by omega)
       refine Bf6 (hr.rd e) hLen htx (G:=G) (R:=(4*L.length+12)*(L.length-(i+1))+7) (a:=i) (D:=D) (O:=O) (xa:=L[i]) (N:=n) (by omega) (fun m h' v5' hm hmn s=>?_) n (i+1) ⟨(Ah L[i].text).1,false,w,1,1,[]⟩ (Nat.le_refl _) (by omega) (Nat.lt_succ_self _) e Nat.one_pos (by show 1+i≤i+1;omega) (by show 1≤i+1-i;omega) (by show w.length≤1000*1;omega) hll (Nat.zero_le _) (by rw[show i+1-i=1 by omega];exact hga.symm) (by show SrK hE h.next h1.next v4 v5 O (D++[]) L[i] _ h2;rw[List.append_nil];exact s2)
       obtain⟨m,rfl⟩:∃q,m=q+1:=⟨m-1,by omega⟩
       have hj1:i+G.used-1+1=i+G.used:=by omega
       refine Av3 s (by omega) (by rw[List.length_append];omega) (fun q=>absurd (show(6:Nat)=0 from q) (by decide)) (fun _ v4' h'' y1 y2 y3=>?_)
       refine go8 m (i+G.used-1) _ _ v4' v5' h'' (by omega) (by rw[hj1];omega) (by omega) (by rw[List.length_append,List.length_singleton];omega) (by rw[List.length_append];omega) y1 y2 y3 fun h'' vo vd z1 z2 z3=>hk h'' vo vd z1 ?_ ?_
       · rw[hj1,List.append_assoc] at z2;exact z2
       · rw[hj1,List.append_assoc] at z3;exact z3
    · have e4:¬L[i].kind=4:=of_decide_eq_false e4
      have hp:Ds L[i]=none:=by unfold Ds;rw[if_neg e1,if_neg e2,if_neg e3,if_neg e5]
      exact go7 _ _ (fun _=>rfl) (fun p q=>by rw[hp] at q;cases q) e4 e7 s2
  · have e:i=L.length:=by have:=of_decide_eq_false e;omega
    rw[e,List.drop_length] at hk
    rw[hr.len,Ay7,Ad,Awc,Ad,A1q]
    have x2:Exh h (h.new (.row (Aj [.int .i64 (.ofNat 8),.str 0 0,.str 0 0,.int .i64 (.ofNat 0),.int .i64 (.ofNat 0),.int .i64 (Int.ofNat L.length),.int .i64 (.ofNat 0)] 0 Z40) 7 0 103 true)):=.new
    have hlo:=x.1
    refine Ac9 (ds:=CT.cells ⟨8,[],[],0,0,L.length,0⟩) (hb4.ext x2) rfl Az6 (Ao4 (by rw[List.length_map];omega)) (by rw[Bh];omega) rfl rfl fun v' h3 b3 x3=>?_
    refine hk h3 v' v5 ⟨Nat.le_trans hlo (Nat.le_trans x2.1 x3.1),fun q hq=>?_⟩ ?_ ?_
    · rw[x3.2 q (Nat.lt_of_lt_of_le hq (Nat.le_trans hlo x2.1)) (.inl hq),x2.2 q (Nat.lt_of_lt_of_le hq hlo),x.2 q hq]
    · rw[List.map_append];exact b3
    · show Ct 48 4 _ _ _ ((D++[]).map DT.cells)
      rw[List.append_nil]
      exact(hb5.ext x2).kps x3 (by decide)
theorem c17(hk:∀h' vo vd,Exh hE h'→Ct 103 7 hE.next.nat h' vo ((Ck L 0 0).1.map CT.cells)→Ct 48 4 hE.next.nat h' vd ((Ck L 0 0).2.map DT.cells)→k (.tuple [vo,vd]) h'):W1 (.func 17) [vL] hE k:=by
 refine w17 (n:=(4*L.length+12)*L.length+5+1) Bs (g17 ?_)
 unfold An7
 exact Bf7 hr hLen htx _ 0 [] [] (Nat.le_refl _) (Nat.zero_le _) (Nat.le_refl _) (Nat.le_refl _) .refl (.inl ⟨rfl,rfl⟩) (.inl ⟨rfl,rfl⟩) hk
end
end Go.Den
namespace Go.Den
open Go.RowKit
set_option maxRecDepth 100000
abbrev kTa:KV:=fun v _=>v=.bool true
theorem Apk{h:H}(he:Lw h){k:KV}(hk:k (.bool true) h):W1 (.func 15) [] h k:=Wc c15 rfl rfl he hk
theorem RdT.ext{h h':H}{v:AV}{L:List Dc}(hr:RdT h v L)(x:Exh h h'):RdT h' v L:=by
 rcases hr with hr|hr
 · exact .inl hr
 · exact .inr (hr.ext x)
theorem Rp{M:Nat}:∀(l:List Dc)(i k:Nat),l.length≤M→(Ck l i k).1.length≤l.length+1∧(Ck l i k).2.length≤l.length*(M+1)
 |[],i,k,_=>by rw[Ck];exact⟨Nat.le_refl _,Nat.zero_le _⟩
 |x::l,i,k+1,h=>by
  have h':l.length≤M:=by simp only[List.length_cons] at h;omega
  obtain⟨a,b⟩:=Rp l (i+1) k h'
  rw[Ck,List.length_cons,Nat.succ_mul]
  omega
 |x::l,i,0,h=>by
  have h':l.length≤M:=by simp only[List.length_cons] at h;omega
  have h'':l.length+1≤M:=by simpa using h
  obtain⟨a,b⟩:=Rp l (i+1) 0 h'
  have gb:=(Kj (x::l) 0 g0 (Nat.le_refl _) (Nat.le_refl _) (Nat.le_refl _) (fun h=>absurd rfl h)).2.2.1
  rw[List.length_cons,Nat.zero_add] at gb
  rw[Ck,List.length_cons,Nat.succ_mul]
  split
  · split
    · simp only[List.length_cons];omega
    · obtain⟨a2,b2⟩:=Rp l (i+1) ((Dj (x::l) 0 g0).used-1) h'
      simp only[List.length_cons,List.length_append];omega
  · split
    · omega
    · split
      · simp only[List.length_cons];omega
      · simp only[List.length_cons];omega
theorem c3{hE:H}{L:List Dc}{vL:AV}(s:List UInt8)(hr:RdT hE vL L)(hs:∀x∈L,Sl x.sites)(he:Lw hE):W1 (.func 3) [vL,S s] hE kTa:=by
 refine w3 (n:=1) Bs (g3 ?_)
 unfold Aya
 refine c14 hr hs (m:=200) (by decide) fun b hb=>?_
 rw[Bt]
 refine Jc ?_
 rw[Bj]
 refine Ap (fun _=>?_) (fun e=>?_)
 · refine Apk he ?_
   rw[Bt]
 simp only[Bool.or_eq_false_iff,Bool.not_eq_false'] at e
 obtain⟨h1,h2⟩:=hb e.1
 have htx:∀x∈L,x.text.length≤1000:=fun x hx=>by have:=h2 x hx;omega
 obtain⟨k1,k2⟩:=Rp (M:=200) L 0 0 h1
 have k3:L.length*(200+1)≤200*201:=Nat.mul_le_mul_right _ h1
 refine c16 hr (by omega) htx he fun ha vo vd xa bo bd=>?_
 rw[Dn,Du]
 refine c17 (hr.ext xa) (by omega) htx fun hb' vo' vd' xb bo' bd'=>?_
 rw[Dn,Du]
 refine c18 (bo.ext xb) bo' (by omega) fun hc xc=>?_
 rw[Bt]
 refine Dp (fun _=>?_) (fun e=>nomatch e)
 refine c19 ((bd.ext xb).ext xc) (bd'.ext xc) (by omega) ?_
 rw[Bt]
 have x03:=(xa.trans xb).trans xc
 have he3:=he.keep x03.1 x03.2
 refine Dp (fun _=>?_) (fun e=>nomatch e)
 refine Wc (c20 s) rfl rfl he3 ?_
 rw[Bt]
 refine c21 s fun hd xd=>?_
 rw[Bt,Bki,Ih,Bt,Ac7]
 refine Dp (fun _=>?_) (fun e=>nomatch e)
 refine Apk (he3.keep xd.1 xd.2) ?_
 rw[Bt]
end Go.Den
