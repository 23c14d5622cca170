/-
 Proof.
-/
import Derived.Test.YtheajahjkmfeaaaGreatDoorChk
import Derived.Test.YtheajahjkmfeaaaGreatDoorIst
import Derived.Test.YtheajahjkmfeaaaGreatDoorLph
noncomputable section
namespace Go.Den
open Go.RowKit
set_option maxRecDepth 100000
def orS(x:TkA):List UInt8×Int×Int:=match x.st[x.st.length-1]? with
 |some y=>(y.fl,y.f,y.t)
 |none=>(x.fl,x.f,x.t)
def orC(x:TkA):List AV:=[S (orS x).1,.int .i64 (orS x).2.1,.int .i64 (orS x).2.2]
theorem Aug{x:TkA}(h:x.st.length-1<x.st.length):orC x=[S x.st[x.st.length-1].fl,.int .i64 x.st[x.st.length-1].f,.int .i64 x.st[x.st.length-1].t]:=by
 unfold orC orS;rw[List.getElem?_eq_getElem h]
theorem Auh{x:TkA}(h:x.st=[]):orC x=[S x.fl,.int .i64 x.f,.int .i64 x.t]:=by
 unfold orC orS;rw[h];rfl
theorem Av5{a b:Nat}{K:Int→Prop}(h:b≤a)(ha:a≤1000000000)(hk:K (Int.ofNat (a-b))):fI (wrap .i64 (Mg (Int.ofNat a) (Int.ofNat b))) K:=by
 rw[Avc h,Pu (by omega),Gp];exact hk
theorem c22{h:H}{x:TkA}(hx:SlE 5 h x.sv (sks x.st))(hl:x.st.length≤1000){k:KV}(hk:∀h',Exh h h'→k (.agg (orC x)) h'):W1 (.func 22) [.agg x.cs] h k:=by
 refine w22 (n:=1) Bg (g22 ?_)
 unfold Aos
 rw[Fu]
 refine Ft (fun e=>by cases e) (Cy ?_)
 have x1:Exh h (h.new (rowOf 44 x.cs)):=.new
 have m1:h.next.nat<(h.new (rowOf 44 x.cs)).next.nat:=by rw[Bf];omega
 have a1:AtP (h.new (rowOf 44 x.cs)) h.next 0 x.cs:=AtP.newRow
 generalize h.new (rowOf 44 x.cs)=h1 at x1 a1 m1 ⊢
 refine Cy ?_
 have x2:Exh h1 (h1.new Aak):=.new
 have sv:∀{K:AV→Prop},K x.sv→Ac 7 (.ptr h.next 0) fun a=>ld1 a (h1.new Aak) K:=fun hK=>by
  rw[Ae]
  exact(a1.ext x2 m1).ld1 (j:=7) (by show 7<8;decide) hK
 refine sv ?_
 rw[hx.len,Ame,show Ca (Int.ofNat 0) (Int.ofNat x.st.length)=decide (0<x.st.length) from ilt _ _]
 have fin:∀h3,Exh h1 h3→AtP h3 h1.next 0 (orC x)→ldn 3 (.ptr h1.next 0) h3 fun v=>k v h3:=fun h3 x3 a3=>a3.ldn rfl (hk h3 (x1.trans x3))
 refine Br (fun e=>?_) (fun e=>?_)
 · have e:0<x.st.length:=of_decide_eq_true e
   refine sv (Av5 e (by omega) ?_)
   have e2:x.st.length-1<x.st.length:=by omega
   have e':x.st.length-1<(sks x.st).length:=by rw[Ame];exact e2
   refine Dg ((hx.rd e').elem e' fun q o hq _ ha=>?_)
   rw[Azr e2] at ha
   rw[Ae]
   refine(ha.ext (x1.trans x2) hq).Bej (j:=1) (c:=3) (by show 1+3≤5;decide) ?_
   refine Ko (e:=41) (zs:=[(.str 0 0),(.int .i64 (Int.ofNat 0)),(.int .i64 (Int.ofNat 0))]) rfl rfl (by decide) fun h3 x3 n3 at3=>?_
   exact fin h3 x3 (by rw[Aug e2];exact at3)
 · have e:x.st=[]:=List.eq_nil_of_length_eq_zero (by have:=of_decide_eq_false e;omega)
   refine Tp3 (a1.ext x2 m1) ?_
   refine Ko (e:=41) (zs:=[(.str 0 0),(.int .i64 (Int.ofNat 0)),(.int .i64 (Int.ofNat 0))]) rfl rfl (by decide) fun h3 x3 n3 at3=>?_
   exact fin h3 x3 (by rw[Auh e];exact at3)
theorem c12{h:H}{x:TkA}(hx:SlE 5 h x.sv (sks x.st))(hl:x.st.length≤1000){k:KV}(hk:∀h',Exh h h'→k (.agg (orC x)) h'):W1 (.func 12) [.agg x.cs] h k:=by
 refine w12 (n:=1) Bg (g12 ?_)
 unfold Ao4
 rw[Fu]
 refine Ft (fun e=>by cases e) (Cy ?_)
 have x1:Exh h (h.new (rowOf 44 x.cs)):=.new
 have m1:h.next.nat<(h.new (rowOf 44 x.cs)).next.nat:=by rw[Bf];omega
 have a1:AtP (h.new (rowOf 44 x.cs)) h.next 0 x.cs:=AtP.newRow
 generalize h.new (rowOf 44 x.cs)=h1 at x1 a1 m1 ⊢
 refine Cy ?_
 have x2:Exh h1 (h1.new Aak):=.new
 have a2:(h1.new Aak).at h1.next=.row (Aj [(.str 0 0),(.int .i64 (Int.ofNat 0)),(.int .i64 (Int.ofNat 0))] 0 .e) 3 0 41 true:=Bc _ _
 have m2:h1.next.nat<(h1.new Aak).next.nat:=by rw[Bf];omega
 generalize h1.new Aak=h2 at x2 a2 m2 ⊢
 refine(a1.ext x2 m1).ldn rfl ?_
 refine c22 (hx.ext (x1.trans x2)) hl fun h3 x3=>?_
 have a3:h3.at h1.next=.row (Aj [(.str 0 0),(.int .i64 (Int.ofNat 0)),(.int .i64 (Int.ofNat 0))] 0 .e) 3 0 41 true:=by rw[x3.2 _ m2];exact a2
 refine Qn a3 (by rfl) (by decide) fun o a4=>?_
 exact a4.ldn rfl (hk _ (A1j ((x1.trans x2).trans x3) (by omega)))
def hit(A:List UInt8)(F T:Int)(x:TkA):Bool:=(decide ((orS x).1=A)&&decide ((orS x).2.1<T))&&decide (F<(orS x).2.2)
def Pa(A:List UInt8)(F T:Int)(l:List TkA)(n:Nat):List Nat:=(List.range n).filter fun i=>((l[i]?).map (hit A F T)).getD false
theorem Ak0{A:List UInt8}{F T:Int}{l:List TkA}{i:Nat}(h:i<l.length):Pa A F T l (i+1)=Pa A F T l i++(if hit A F T l[i]=true then[i] else[]):=by
 unfold Pa
 rw[List.range_succ,List.filter_append]
 congr 1
 rw[List.filter_cons,List.getElem?_eq_getElem h]
 rfl
theorem Avr{A:List UInt8}{F T:Int}{l:List TkA}{i:Nat}:(Pa A F T l i).length≤i:=by
 unfold Pa
 have:=List.length_filter_le (fun i=>((l[i]?).map (hit A F T)).getD false) (List.range i)
 rwa [List.length_range] at this
theorem Avp(l:List Nat)(n:Nat):ics (l++[n])=ics l++[[.int .i64 (.ofNat n)]]:=by unfold ics;rw[List.map_append];rfl
theorem Aq2{lo:Nat}{h:H}{v:AV}{l:List Nat}{i:Nat}(hb:Cb 3 1 lo h v (ics l))(hl:l.length≤1000000)(hlo:lo≤h.next.nat){k:KV}(hk:∀v' h',Cb 3 1 lo h' v' (ics (l++[i]))→KpS 3 lo h h'→k v' h'):
 oK (Ap env 38 (fun e ei=>Ak 1 [(0,.int .i64 (Int.ofNat i))] h e ei)) fun x h'=>oK (Ar env .append [38,38] [v,x] h') k:=by
 rw[Ba6,Ad,Ayj]
 exact Po (ds:=[.int .i64 (Int.ofNat i)]) (.inr hb) rfl sz3 (Av0 (by rw[Afu];omega)) hlo (by rw[Avp] at hk;exact hk)
theorem A8r{x:TkA}{A:List UInt8}{F T:Int}{h:H}{p q:P}(hp:AtP h p 0 (orC x))(hq:AtP h q 0 [S A,.int .i64 F,.int .i64 T]){k:Bool→H→Prop}(hk:k (hit A F T x) h):
 Ac 0 (.ptr p 0) fun a=>ld1 a h fun v=>asS v fun l1 c1=>Ac 0 (.ptr q 0) fun a=>ld1 a h fun v=>asS v fun l2 c2=>
  Ay (fun k1=>gate true (Dv l1 c1 l2 c2) (Ac 1 (.ptr p 0) fun a=>ld1 a h fun v=>asI .i64 v fun n=>Ac 2 (.ptr q 0) fun a=>ld1 a h fun v=>asI .i64 v fun m=>k1 (Ca n m) h) (k1 false h)) fun b h=>
  Ay (fun k1=>gate true b (Ac 2 (.ptr p 0) fun a=>ld1 a h fun v=>asI .i64 v fun n=>Ac 1 (.ptr q 0) fun a=>ld1 a h fun v=>asI .i64 v fun m=>k1 (Ca m n) h) (k1 false h)) k:=by
 rw[Ae]
 refine hp.ld1 (j:=0) (by show 0<3;decide) ?_
 show asS (S (orS x).1) _
 rw[Eg,Ae]
 refine hq.ld1 (j:=0) (by show 0<3;decide) ?_
 show asS (S A) _
 rw[Eg,Fj]
 refine Mc (b:=decide ((orS x).2.1<T)) (fun k' hk'=>?_) ?_
 · rw[Ae]
   refine hp.ld1 (j:=1) (by show 1<3;decide) ?_
   show asI .i64 (.int .i64 (orS x).2.1) _
   rw[Bj,Ae]
   refine hq.ld1 (j:=2) (by show 2<3;decide) ?_
   show asI .i64 (.int .i64 T) _
   rw[Bj,Jv];exact hk'
 refine Mc (b:=decide (F<(orS x).2.2)) (fun k' hk'=>?_) hk
 rw[Ae]
 refine hp.ld1 (j:=2) (by show 2<3;decide) ?_
 show asI .i64 (.int .i64 (orS x).2.2) _
 rw[Bj,Ae]
 refine hq.ld1 (j:=1) (by show 1<3;decide) ?_
 show asI .i64 (.int .i64 F) _
 rw[Bj,Jv];exact hk'
theorem Bjg{hE:H}{v:AV}{l:List TkA}(hv:TkR hE v l)(hl:l.length≤1000∧∀x∈l,x.st.length≤1000){q0:P}{A:List UInt8}{F T:Int}(hq:AtP hE q0 0 [S A,.int .i64 F,.int .i64 T])(nq:q0.nat<hE.next.nat){k:KV}(hk:∀v' h',Exh hE h'→Cb 3 1 hE.next.nat h' v' (ics (Pa A F T l l.length))→k v' h'):∀(n i:Nat){h:H}{w:AV},l.length-i<n→i≤l.length→Exh hE h→Cb 3 1 hE.next.nat h w (ics (Pa A F T l i))→(r7 W1 k n).a1 (.ptr q0 0) w v (Int.ofNat l.length) (Int.ofNat i) h
 |0,_,_,_,hh,_,_,_=>absurd hh (Nat.not_lt_zero _)
 |n+1,i,h,w,hh,hi,xx,hb=>by
  refine Bm1 ?_
  unfold Azw
  rw[ilt]
  refine Br (fun e=>?_) (fun e=>?_)
  · have e:i<l.length:=of_decide_eq_true e
    have e':i<(tks l).length:=by rw[Yh];exact e
    have hs:=hv.2 _ (List.getElem_mem e)
    refine Dg ((hv.1.rd e').elem e' fun q o hqn _ ha=>?_)
    rw[Ama e] at ha
    refine(ha.ext xx hqn).ldn rfl ?_
    refine Cy ?_
    refine Ko (e:=44) (zs:=[(.int .i64 (Int.ofNat 0)),(.str 0 0),(.bool false),(.str 0 0),(.int .i64 (Int.ofNat 0)),(.int .i64 (Int.ofNat 0)),(.bool false),.Ai]) rfl rfl (by decide) fun h1 x1 n1 at1=>?_
    have X1:=xx.trans x1
    refine at1.ldn rfl ?_
    refine c12 (hs.ext X1) (hl.2 _ (List.getElem_mem e)) fun h2 x2=>?_
    have X2:=X1.trans x2
    refine Cy ?_
    refine Ko (e:=41) (zs:=[(.str 0 0),(.int .i64 (Int.ofNat 0)),(.int .i64 (Int.ofNat 0))]) rfl rfl (by decide) fun h3 x3 n3 at3=>?_
    have X3:=X2.trans x3
    have hb3:=((hb.ext x1).ext x2).ext x3
    have hln:=Avr (A:=A) (F:=F) (T:=T) (l:=l) (i:=i)
    refine A8r at3 (hq.ext X3 nq) ?_
    have next:∀{w':AV}{h':H},Exh hE h'→Cb 3 1 hE.next.nat h' w' (ics (Pa A F T l (i+1)))→fI (wrap .i64 (Bq (Int.ofNat i) (Int.ofNat 1))) fun n'=>(r7 W1 k n).a1 (.ptr q0 0) w' v (Int.ofNat l.length) n' h':=fun x' b'=>Bw (by omega) (Bjg hv hl hq nq hk n (i+1) (by omega) e x' b')
    refine Br (fun q=>?_) (fun q=>?_)
    · refine Aq2 hb3 (by omega) X3.1 fun v4 h4 b4 k4=>?_
      refine next (k4.exh X3 (Nat.le_refl _)) ?_
      rw[Ak0 e,if_pos q];exact b4
    · refine next X3 ?_
      rw[Ak0 e,if_neg (by rw[q];decide),List.append_nil];exact hb3
  · have e:i=l.length:=by have:=of_decide_eq_false e;omega
    subst e
    exact hk w h xx hb
theorem c7{h:H}{v:AV}{l:List TkA}(hv:TkR h v l)(hl:l.length≤1000∧∀x∈l,x.st.length≤1000){A:List UInt8}{F T:Int}{w1 w2 w3:AV}{b:Bool}{k:KV}(hk:∀v' h',Exh h h'→SlR 1 h' v' (ics (Pa A F T l l.length))→k v' h'):W1 (.func 7) [.agg [v,w1,w2,w3,.bool b],.agg [S A,.int .i64 F,.int .i64 T]] h k:=by
 refine w7 (n:=l.length+2) Bg (g7 ?_)
 unfold Azx
 rw[Fu]
 refine Ft (fun e=>by cases e) (Cy ?_)
 have x1:Exh h (h.new (rowOf 34 [v,w1,w2,w3,.bool b])):=.new
 have m1:h.next.nat<(h.new (rowOf 34 [v,w1,w2,w3,.bool b])).next.nat:=by rw[Bf];omega
 have a1:AtP (h.new (rowOf 34 [v,w1,w2,w3,.bool b])) h.next 0 [v,w1,w2,w3,.bool b]:=AtP.newRow
 generalize h.new (rowOf 34 [v,w1,w2,w3,.bool b])=h1 at x1 a1 m1 ⊢
 rw[Fu]
 refine Ft (fun e=>by cases e) (Cy ?_)
 have x2:Exh h1 (h1.new (rowOf 41 [S A,.int .i64 F,.int .i64 T])):=.new
 have m2:h1.next.nat<(h1.new (rowOf 41 [S A,.int .i64 F,.int .i64 T])).next.nat:=by rw[Bf];omega
 have a2:AtP (h1.new (rowOf 41 [S A,.int .i64 F,.int .i64 T])) h1.next 0 [S A,.int .i64 F,.int .i64 T]:=AtP.newRow
 generalize h1.new (rowOf 41 [S A,.int .i64 F,.int .i64 T])=h2 at x2 a2 m2 ⊢
 rw[Ae]
 refine(a1.ext x2 m1).ld1 (j:=0) (by show 0<5;decide) ?_
 show Cz v _
 rw[hv.1.len,Yh]
 have X2:=x1.trans x2
 exact Bjg (hv.ext X2) hl a2 m2 (fun v' h' x' b'=>hk v' h' (X2.trans x') b'.slr) _ 0 (by omega) (Nat.zero_le _) .refl (.inl ⟨rfl,rfl⟩)
end Go.Den
namespace Go.Den
open Go.RowKit
set_option maxRecDepth 100000
open Go.Lx (Rn bts Au)
def Cd(h:H)(p:P)(e:TypeId)(cs:List AV):Prop:=∃t,h.at p=.row t cs.length 0 e true∧∀j (hj:j<cs.length),Aw t j=cs[j]
section
variable{h:H}{p:P}{e:TypeId}{cs:List AV}
theorem Cd.of{h':H}(r:Cd h p e cs)(hf:h'.at p=h.at p):Cd h' p e cs:=by
 obtain⟨t,a,b⟩:=r
 exact⟨t,by rw[hf];exact a,b⟩
theorem Cd.ext{h':H}(r:Cd h p e cs)(x:Exh h h')(hp:p.nat<h.next.nat):Cd h' p e cs:=r.of (x.2 p hp)
theorem Cd.kps{h':H}{e':TypeId}{lo:Nat}(r:Cd h p e cs)(x:KpS e' lo h h')(hp:p.nat<h.next.nat)(he:e≠e'):Cd h' p e cs:=by
 obtain⟨t,a,b⟩:=r
 exact⟨t,by rw[x.2 p hp (.inr fun t2 m2 z2 w2 e2=>by rw[a] at e2;cases e2;exact he rfl)];exact a,b⟩
theorem Cd.kpl{h':H}{e':TypeId}{lo:Nat}(r:Cd h p e cs)(x:KpS e' lo h h')(hp:p.nat<h.next.nat)(hl:p.nat<lo):Cd h' p e cs:=r.of (x.2 p hp (.inl hl))
theorem Cd.ld1{K:AV→Prop}(r:Cd h p e cs){j:Nat}(hj:j<cs.length)(hk:K cs[j]):ld1 (.ptr p j) h K:=by
 obtain⟨t,a,b⟩:=r
 exact Eh a hj (by rw[b j hj];exact hk)
theorem Cd.sub(r:Cd h p e cs){o:Nat}{ds:List AV}(hd:(cs.drop o).take ds.length=ds)(h1:1≤ds.length):AtP h p o ds:=by
 obtain⟨t,a,b⟩:=r
 have hl:=congrArg List.length hd
 rw[List.length_take,List.length_drop] at hl
 refine .row t _ 0 e true a (by omega) fun j hj=>?_
 rw[b (o+j) (by omega)]
 have:ds[j]=((cs.drop o).take ds.length)[j]'(by rw[List.length_take,List.length_drop];omega):=by simp only[hd]
 rw[this,List.getElem_take,List.getElem_drop]
theorem Cd.ldn{K:AV→Prop}(r:Cd h p e cs){o c:Nat}{ds:List AV}(hc:ds.length=c)(hd:(cs.drop o).take ds.length=ds)(h1:1≤ds.length)(hk:K (.agg ds)):ldn c (.ptr p o) h K:=(r.sub hd h1).ldn hc hk
theorem Cd.st1{K:H→Prop}(r:Cd h p e cs){j:Nat}{v:AV}{cs':List AV}(hj:j<cs.length)(hv:v.one=true)(hs:cs.set j v=cs')(hk:∀h',h'.next=h.next→(∀c,c≠p→h'.at c=h.at c)→Cd h' p e cs'→K h'):st1 (.ptr p j) v h K:=by
 obtain⟨t,a,b⟩:=r
 refine Iw a (Nat.zero_le _) hj hv (hk _ rfl (fun c hc=>Az hc) ?_)
 subst hs
 refine⟨_,by rw[List.length_set];exact Ba _ _ _,fun i hi=>?_⟩
 rw[List.length_set] at hi
 rw[Ah,List.getElem_set]
 by_cases c:j=i
 · subst c
   rw[if_pos ⟨Nat.le_refl _,by simp⟩,if_pos rfl];simp
 · rw[if_neg (by simp only[List.length_cons,List.length_nil];omega),if_neg c]
   exact b i hi
theorem Cd.stn{K:H→Prop}(r:Cd h p e cs){o c:Nat}{ds cs':List AV}(hc:ds.length=c)(h1:1≤c)(ho:o+c≤cs.length)(hs:cs.take o++ds++cs.drop (o+c)=cs')(hk:∀h',h'.next=h.next→(∀c,c≠p→h'.at c=h.at c)→Cd h' p e cs'→K h'):stn c (.ptr p o) (.agg ds) h K:=by
 obtain⟨t,a,b⟩:=r
 refine Amb a (Nat.zero_le _) hc h1 ho (hk _ rfl (fun c hc=>Az hc) ?_)
 have hl:cs'.length=cs.length:=by rw[←hs,List.length_append,List.length_append,List.length_take,List.length_drop];omega
 refine⟨_,by rw[hl];exact Ba _ _ _,fun i hi=>?_⟩
 subst hs
 rw[hl] at hi
 rw[Ah,List.getElem_append]
 by_cases c1:i<o+c
 · have hlt:i<(cs.take o++ds).length:=by rw[List.length_append,List.length_take];omega
   rw[dif_pos hlt,List.getElem_append]
   by_cases c2:i<o
   · have:i<(cs.take o).length:=by rw[List.length_take];omega
     rw[if_neg (by omega),dif_pos this,List.getElem_take]
     exact b i hi
   · have:¬i<(cs.take o).length:=by rw[List.length_take];omega
     rw[if_pos (by omega),dif_neg this,List.getD_eq_getElem?_getD,List.getElem?_eq_getElem (by omega)]
     simp only[Option.getD_some]
     congr 1
     rw[List.length_take];omega
 · have hlt:¬i<(cs.take o++ds).length:=by rw[List.length_append,List.length_take];omega
   rw[dif_neg hlt,if_neg (by omega),List.getElem_drop,b i hi]
   congr 1
   rw[List.length_append,List.length_take];omega
end
theorem newRow{h:H}{o:Ob FT}{e:TypeId}{cs:List AV}{K:P→H→Prop}(ho:o=rowOf e cs)(hk:∀h',Exh h h'→h'.next.nat=h.next.nat+1→Cd h' h.next e cs→K h.next h'):Hp.Cs h o K:=by
 subst ho
 refine Cy (hk _ .new Bf ⟨Aj cs 0 .e,?_,fun j hj=>?_⟩)
 · rw[Bc];unfold rowOf;rw[De]
 · rw[Ah,if_pos ⟨Nat.zero_le _,by omega⟩,List.getD_eq_getElem?_getD,Nat.sub_zero,List.getElem?_eq_getElem hj];rfl
theorem Exh.Sm{hE h h':H}{p:P}(x:Exh hE h)(hp:hE.next.nat≤p.nat)(hn:h'.next=h.next)(hf:∀c,c≠p→h'.at c=h.at c):Exh hE h':=⟨by rw[hn];exact x.1,fun c hc=>by rw[hf c fun e=>by subst e;omega,x.2 c hc]⟩
def nls:Nat→List UInt8→List Nat
 |_,[]=>[]
 |i,x::r=>if x=10 then(i+1)::nls (i+1) r else nls (i+1) r
theorem Apk:∀(s:List UInt8)(i:Nat),(nls i s).length≤s.length
 |[],_=>Nat.le_refl _
 |x::r,i=>by
  have:=Apk r (i+1)
  unfold nls
  split
  · simp only[List.length_cons];omega
  · simp only[List.length_cons];omega
theorem Aam(x:UInt8):∀(s:List UInt8)(i:Nat),nls i (s++[x])=nls i s++(if x=10 then[i+s.length+1] else[])
 |[],i=>by
  show nls i [x]=[]++_
  simp only[nls,List.nil_append,List.length_nil,Nat.add_zero]
 |y::r,i=>by
  show nls i (y::(r++[x]))=_
  unfold nls
  rw[Aam x r (i+1)]
  have e:i+1+r.length+1=i+(y::r).length+1:=by simp only[List.length_cons];omega
  rw[e]
  split
  · rfl
  · rfl
def Ff(s:List UInt8):List LnV:=Age s.length (Jc (Au s) s.length ((Au s).length+2) 0 0)
def Aw4(s:List UInt8):Bool:=Ot (Au s) ((Au s).length+2) 0
structure Prs(lo:Nat)(h:H)(fl s:List UInt8)(vo vd vs:AV)(D Lc:List (List AV)):Prop where
 z:He TLn 4 lo h vo Lc
 o:Nv lo h fl (Au s) Lc (Ff s)
 d:Cb TDg 4 lo h vd D
 st:Cb 3 1 lo h vs (ics (nls 0 s))
 c:Aw4 s=true→D=[]
 dl:D.length≤s.length+2
theorem Prs.keep{lo:Nat}{h h':H}{fl s:List UInt8}{vo vd vs:AV}{D Lc:List (List AV)}(r:Prs lo h fl s vo vd vs D Lc)(hn:h.next.nat≤h'.next.nat)(hf:∀c,c.nat<h.next.nat→lo≤c.nat→(∃t m z e w,h.at c=.row t m z e w∧(e=TLn∨e=TTk∨e=TDg∨e=3))→h'.at c=h.at c):Prs lo h' fl s vo vd vs D Lc where
 z:=r.z.frame hn fun c hc hl t m z w e=>hf c hc hl ⟨t,m,z,_,w,e,.inl rfl⟩
 o:=by
  refine⟨r.o.1,fun i h1 h2=>?_⟩
  obtain⟨vt,e,b⟩:=r.o.2 i h1 h2
  exact⟨vt,e,b.frame hn fun c hc hl t m z w e=>hf c hc hl ⟨t,m,z,_,w,e,.inr (.inl rfl)⟩⟩
 d:=r.d.frame hn fun c hc hl t m z w e=>hf c hc hl ⟨t,m,z,_,w,e,.inr (.inr (.inl rfl))⟩
 st:=r.st.frame hn fun c hc hl t m z w e=>hf c hc hl ⟨t,m,z,_,w,e,.inr (.inr (.inr rfl))⟩
 c:=r.c
 dl:=r.dl
theorem Axm{hE:H}{fl s:List UInt8}(hs:s.length≤900000){lo:Nat}(hlo:hE.next.nat≤lo){p:P}(hp:hE.next.nat≤p.nat)(hpl:p.nat<lo){vo vd:AV}{D Lc:List (List AV)}(hdl:D.length≤s.length+2){k:KV}(hk:∀h' vs,Exh hE h'→Prs lo h' fl s vo vd vs D Lc→k (.agg [vo,vd,vs]) h'):∀(n i:Nat){h:H}{vs:AV},s.length-i<n→i≤s.length→Exh hE h→p.nat<h.next.nat→lo≤h.next.nat→Cd h p 105 [vo,vd,vs]→He TLn 4 lo h vo Lc→Nv lo h fl (Au s) Lc (Ff s)→Cb TDg 4 lo h vd D→(Aw4 s=true→D=[])→Cb 3 1 lo h vs (ics (nls 0 (s.take i)))→(r17 W1 k n).a1 s.length (enc s) (.ptr p 0) (Int.ofNat s.length) (Int.ofNat i) h
 |0,_,_,_,hh,_,_,_,_,_,_,_,_,_,_=>absurd hh (Nat.not_lt_zero _)
 |n+1,i,h,vs,hh,hi,xx,np,nl,r,bz,bo,bd,bc,bs=>by
  refine Bfg ?_
  unfold Aoy
  rw[ilt]
  refine Br (fun e=>?_) (fun e=>?_)
  · have e:i<s.length:=of_decide_eq_true e
    have et:s.take (i+1)=s.take i++[s[i]]:=by rw[List.take_add_one,List.getElem?_eq_getElem e];rfl
    have el:(s.take i).length=i:=by rw[List.length_take];omega
    have hnl:=Apk (s.take i) 0
    rw[el] at hnl
    refine Dg (Fz e ?_)
    rw[Ww _ 10 (by decide)]
    refine Br (fun c=>?_) (fun c=>?_)
    · have c:s[i]=10:=of_decide_eq_true c
      rw[Ae]
      refine r.ld1 (j:=2) (by show 2<3;decide) (Bw (by omega) ?_)
      refine Aq2 (l:=nls 0 (s.take i)) bs (by omega) nl fun v4 h4 b4 k4=>?_
      have x4:Exh hE h4:=k4.exh xx hlo
      rw[Ae]
      refine(r.kpl k4 np hpl).st1 (j:=2) (cs':=[vo,vd,v4]) (by show 2<3;decide) b4.one rfl fun h5 n5 f5 r5=>?_
      have x5:Exh hE h5:=x4.Sm hp n5 f5
      have m5:h.next.nat≤h5.next.nat:=by rw[n5];exact k4.1
      have fr:∀c',c'.nat<h.next.nat→lo≤c'.nat→∀{t m z e w},h.at c'=.row t m z e w→e≠3→h5.at c'=h.at c':=fun c' hc hl {t m z e w} ha he=>by
       rw[f5 c' (fun q=>by subst q;omega),k4.2 c' hc (.inr fun t2 m2 z2 w2 e2=>by rw[ha] at e2;cases e2;exact he rfl)]
      refine Bw (by omega) (Axm hs hlo hp hpl hdl hk n (i+1) (by omega) e x5 (Nat.lt_of_lt_of_le np m5) (Nat.le_trans nl m5) r5 (bz.frame m5 fun c' hc hl t m z w ha=>fr c' hc hl ha (by decide)) ?_ (bd.frame m5 fun c' hc hl t m z w ha=>fr c' hc hl ha (by decide)) bc ?_)
      · refine⟨bo.1,fun i h1 h2=>?_⟩
        obtain⟨vt,e,b⟩:=bo.2 i h1 h2
        exact⟨vt,e,b.frame m5 fun c' hc hl t m z w ha=>fr c' hc hl ha (by decide)⟩
      · rw[et,Aam,if_pos c,el,Nat.zero_add]
        exact b4.frame (by rw[n5];exact Nat.le_refl _) fun c' _ hl t m z w _=>f5 c' fun q=>by subst q;omega
    · have c:¬s[i]=10:=of_decide_eq_false c
      refine Bw (by omega) (Axm hs hlo hp hpl hdl hk n (i+1) (by omega) e xx np nl r bz bo bd bc ?_)
      rw[et,Aam,if_neg c,List.append_nil]
      exact bs
  · have e:i=s.length:=by have:=of_decide_eq_false e;omega
    subst e
    rw[List.take_length] at bs
    refine r.ldn (o:=0) (ds:=[vo,vd,vs]) rfl rfl (by simp) ?_
    refine r.stn (o:=0) (ds:=[vo,vd,vs]) (cs':=[vo,vd,vs]) rfl (by decide) (by simp) rfl fun h1 n1 f1 r1=>?_
    refine r1.ldn (o:=0) (ds:=[vo,vd,vs]) rfl rfl (by simp) ?_
    refine hk _ _ (xx.Sm hp n1 f1) (Prs.keep ⟨bz,bo,bd,bs,bc,hdl⟩ (by rw[n1];exact Nat.le_refl _) fun c _ hl _=>f1 c fun q=>by subst q;omega)
theorem c17{h:H}{fl s:List UInt8}(hs:s.length≤900000){k:KV}(hk:∀lo h' vo vd vs D Lc,h.next.nat≤lo→Exh h h'→Prs lo h' fl s vo vd vs D Lc→k (.agg [vo,vd,vs]) h'):W1 (.func 17) [S fl,S s] h k:=by
 refine w17 (n:=s.length+3) Bg (g17 ?_)
 unfold Aoz
 refine newRow (e:=105) (cs:=[.Ai,.Ai,.Ai]) rfl fun h1 x1 n1 r1=>?_
 refine c39 hs ⟨fun h2 lo vo vd D Lc x2 hlo hl2 bz bo bd bc dl=>?_⟩
 rw[Hu,Ht]
 have r2:=r1.ext x2 (by omega)
 have m2:=x2.1
 rw[Ae]
 refine r2.st1 (j:=0) (cs':=[vo,.Ai,.Ai]) (by show 0<3;decide) bz.one rfl fun h3 n3 f3 r3=>?_
 rw[Ae]
 refine r3.st1 (j:=1) (cs':=[vo,vd,.Ai]) (by show 1<3;decide) bd.one rfl fun h4 n4 f4 r4=>?_
 have x4:Exh h h4:=((x1.trans x2).Sm (Nat.le_refl _) n3 f3).Sm (Nat.le_refl _) n4 f4
 have m4:h4.next.nat=h2.next.nat:=by rw[n4,n3]
 have fr:∀c,lo≤c.nat→h4.at c=h2.at c:=fun c hc=>by
  have hne:c≠h.next:=fun e=>by subst e;omega
  rw[f4 c hne,f3 c hne]
 refine Axm hs (lo:=lo) (by omega) (Nat.le_refl _) (by omega) (by have:=Js s;omega) (fun h5 vs x5 p5=>hk lo h5 vo vd vs D Lc (by omega) x5 p5) _ 0 (by omega) (Nat.zero_le _) x4 (by omega) (by omega) r4 (bz.frame (by omega) fun c _ hl t m z w _=>fr c hl) ⟨bo.1,fun i h1 h2=>?_⟩ (bd.frame (by omega) fun c _ hl t m z w _=>fr c hl) bc (.inl ⟨rfl,rfl⟩)
 obtain⟨vt,e,b⟩:=bo.2 i h1 h2
 exact⟨vt,e,b.frame (by omega) fun c _ hl t m z w _=>fr c hl⟩
end Go.Den
