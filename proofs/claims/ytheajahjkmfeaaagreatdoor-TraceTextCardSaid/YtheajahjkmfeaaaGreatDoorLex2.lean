/-
 Proof.
-/
import Derived.Test.YtheajahjkmfeaaaGreatDoorByt1
namespace Go.Den
open Go.RowKit
set_option maxRecDepth 100000
theorem ilt(a b:Nat):Ca (Int.ofNat a) (Int.ofNat b)=decide (a<b):=by
 rw[Jv];exact decide_eq_decide.2 Int.ofNat_lt
theorem ile(a b:Nat):Ef (Int.ofNat a) (Int.ofNat b)=decide (a≤b):=by
 rw[Mn];exact decide_eq_decide.2 Int.ofNat_le
theorem Wx(a b:Nat):Bx (Int.ofNat a) (Int.ofNat b)=decide (a=b):=by
 rw[Jw];exact decide_eq_decide.2 ⟨fun e=>Int.ofNat.inj e,fun e=>by rw[e]⟩
theorem A8k(a b:UInt8):Bx (Int.ofNat a.toNat) (Int.ofNat b.toNat)=decide (a=b):=by
 rw[Wx];exact decide_eq_decide.2 ⟨fun e=>UInt8.toNat_inj.1 e,fun e=>by rw[e]⟩
theorem Avc{a b:Nat}(h:b≤a):Mg (Int.ofNat a) (Int.ofNat b)=Int.ofNat (a-b):=by
 rw[Apx];exact(Int.ofNat_sub h).symm
theorem Xu(a b:Nat):Bq (Int.ofNat a) (Int.ofNat b)=Int.ofNat (a+b):=by rw[Afv];rfl
def Ld(sz o:Nat)(t:Tm)(L:List (List AV)):Prop:=∀i (hi:i<L.length),L[i].length=sz∧∀j (hj:j<L[i].length),Aw t (o+i*sz+j)=L[i][j]
def We(h:H)(q:P)(c:Nat→AV)(m:Nat):Prop:=(∃t z e w,h.at q=.row t m z e w∧c=Aw t)∨h.at q=.ext c m
theorem We.frame{h h':H}{q:P}{c:Nat→AV}{m:Nat}(f:We h q c m)(e:h'.at q=h.at q):We h' q c m:=by unfold We;rw[e];exact f
def AtP(h:H)(q:P)(o:Nat)(cs:List AV):Prop:=∃c m,We h q c m∧o+cs.length≤m∧∀j (hj:j<cs.length),c (o+j)=cs[j]
theorem AtP.row{h:H}{q:P}{o:Nat}{cs:List AV}(t:Tm)(m z:Nat)(e:TypeId)(w:Bool)(h1:h.at q=.row t m z e w)(h2:o+cs.length≤m)(h3:∀j (hj:j<cs.length),Aw t (o+j)=cs[j]):AtP h q o cs:=⟨Aw t,m,.inl ⟨t,z,e,w,h1,rfl⟩,h2,h3⟩
def Ag2(sz o:Nat)(c:Nat→AV)(L:List (List AV)):Prop:=∀i (hi:i<L.length),L[i].length=sz∧∀j (hj:j<L[i].length),c (o+i*sz+j)=L[i][j]
def Rd(sz:Nat)(h:H)(v:AV)(L:List (List AV)):Prop:=∃q o c m b,v=.slice q o L.length sz b∧q.nat<h.next.nat∧We h q c m∧o+L.length*sz≤m∧Ag2 sz o c L
theorem Rd.row{sz:Nat}{h:H}{v:AV}{L:List (List AV)}(q:P)(o:Nat)(t:Tm)(m z:Nat)(e:TypeId)(w b:Bool)(h0:v=.slice q o L.length sz b)(h1:q.nat<h.next.nat)(h2:h.at q=.row t m z e w)(h3:o+L.length*sz≤m)(h4:Ld sz o t L):Rd sz h v L:=⟨q,o,Aw t,m,b,h0,h1,.inl ⟨t,z,e,w,h2,rfl⟩,h3,h4⟩
def Cb(e:TypeId)(sz lo:Nat)(h:H)(v:AV)(L:List (List AV)):Prop:=(v=.Ai∧L=[])∨∃q t m z w,v=.slice q 0 L.length sz false∧lo≤q.nat∧q.nat<h.next.nat∧h.at q=.row t m z e w∧L.length*sz≤m∧z≤L.length*sz∧Ld sz 0 t L
theorem Cb.one{e:TypeId}{sz lo:Nat}{h:H}{v:AV}{L:List (List AV)}(hb:Cb e sz lo h v L):v.one=true:=by
 rcases hb with⟨rfl,_⟩|⟨_,_,_,_,_,rfl,_⟩<;>rfl
theorem Cb.len{e:TypeId}{sz lo:Nat}{h:H}{v:AV}{L:List (List AV)}(hb:Cb e sz lo h v L){K:Nat→Prop}:Cz v K=K L.length:=by
 rcases hb with⟨rfl,rfl⟩|⟨_,_,_,_,_,rfl,_⟩<;>rfl
theorem Rd.len{sz:Nat}{h:H}{v:AV}{L:List (List AV)}(hr:Rd sz h v L){K:Nat→Prop}:Cz v K=K L.length:=by
 obtain⟨_,_,_,_,_,rfl,_⟩:=hr;rfl
theorem Rd.frame{sz:Nat}{h h':H}{v:AV}{L:List (List AV)}(hr:Rd sz h v L)(hn:h.next.nat≤h'.next.nat)(hf:∀c,c.nat<h.next.nat→(∀o n z b,v=.slice c o n z b→h'.at c=h.at c)):Rd sz h' v L:=by
 obtain⟨q,o,c,m,b,rfl,h1,h2,h3⟩:=hr
 exact⟨q,o,c,m,b,rfl,by omega,h2.frame (hf q h1 _ _ _ _ rfl),h3⟩
theorem Aqf{sz i:Nat}{q:P}{o n:Nat}{b:Bool}{K:AV→Prop}(hi:i<n)(hk:K (.ptr q (o+i*sz))):Cc sz i (.slice q o n sz b) K:=by
 show Bool.rec As (fN (Nat.add o (Nat.mul i sz)) (fun q'=>K (.ptr q q'))) (An (Nat.ble (Nat.add i 1) n) (Nat.beq sz sz))
 rw[show Nat.ble (Nat.add i 1) n=true from Nat.ble_eq_true_of_le hi,Nat.beq_refl]
 exact hk
theorem Rd.elem{sz i:Nat}{h:H}{v:AV}{L:List (List AV)}{K:AV→Prop}(hr:Rd sz h v L)(hi:i<L.length)(hk:∀q o,q.nat<h.next.nat→(∃o n z b,v=.slice q o n z b)→AtP h q o L[i]→K (.ptr q o)):Cc sz i v K:=by
 obtain⟨q,o,c,m,b,rfl,h1,h2,h3,h4⟩:=hr
 refine Aqf hi (hk _ _ h1 ⟨_,_,_,_,rfl⟩ ⟨c,m,h2,?_,?_⟩)
 · rw[(h4 i hi).1]
   have:(i+1)*sz≤L.length*sz:=Nat.mul_le_mul_right _ hi
   rw[Nat.succ_mul] at this
   omega
 · exact(h4 i hi).2
theorem Ae{q:P}{o j:Nat}{K:AV→Prop}:Ac j (.ptr q o) K=K (.ptr q (o+j)):=rfl
theorem Bmz{h:H}{b:P}{c:Nat→AV}{n o:Nat}{K:AV→Prop}(ha:h.at b=.ext c n)(ho:o<n)(hk:K (c o)):Go.Den.ld1 (.ptr b o) h K:=by
 show h.Ih b o As K
 unfold Hp.Ih
 rw[ha]
 show Zx o As K c n
 unfold Zx
 rw[show Nat.ble (Nat.add o 1) n=true from Nat.ble_eq_true_of_le ho]
 show Cj (c o) K
 rw[Ch];exact hk
theorem Rb(c:Nat→AV):∀(n o:Nat),Da c n o=(List.range n).map fun i=>c (o+i)
 |0,_=>rfl
 |n+1,o=>by
  show c o::Da c n (Nat.add o 1)=_
  rw[Rb c n,List.range_succ_eq_map,List.map_cons,List.map_map]
  congr 1
  exact List.map_congr_left fun i _=>by show c (o+1+i)=c (o+(i+1));congr 1;omega
theorem AtP.ld1{h:H}{q:P}{o j:Nat}{cs:List AV}{K:AV→Prop}(ha:AtP h q o cs)(hj:j<cs.length)(hk:K cs[j]):ld1 (.ptr q (o+j)) h K:=by
 obtain⟨c,m,h1,h2,h3⟩:=ha
 rcases h1 with⟨t,z,e,w,h1,rfl⟩|h1
 · refine Eh h1 (by omega) ?_
   rw[h3 j hj];exact hk
 · refine Bmz h1 (by omega) ?_
   rw[h3 j hj];exact hk
theorem AtP.ldn{h:H}{q:P}{o c:Nat}{cs:List AV}{K:AV→Prop}(ha:AtP h q o cs)(hj:cs.length=c)(hk:K (.agg cs)):ldn c (.ptr q o) h K:=by
 obtain⟨f,m,h1,h2,h3⟩:=ha
 have hm:(List.range c).map (fun i=>f (o+i))=cs:=by
  apply List.ext_getElem
  · simp[hj]
  · intro i h1 h2
    simp only[List.getElem_map,List.getElem_range]
    exact h3 i h2
 rcases h1 with⟨t,z,e,w,h1,rfl⟩|h1
 · refine Au5 h1 (by omega) ?_
   rw[Kc,hm];exact hk
 · show h.Ix q o c As (fun l=>K (.agg l))
   unfold Hp.Ix
   rw[h1]
   show Zw o c As (fun l=>K (.agg l)) f m
   unfold Zw
   rw[show Nat.ble (Nat.add o c) m=true from Nat.ble_eq_true_of_le (by show o+c≤m;omega),Rb,hm]
   exact hk
theorem AtP.frame{h h':H}{q:P}{o:Nat}{cs:List AV}(ha:AtP h q o cs)(hf:h'.at q=h.at q):AtP h' q o cs:=by
 obtain⟨c,m,h1,h2⟩:=ha
 exact⟨c,m,h1.frame hf,h2⟩
theorem Rd.fld{sz i j:Nat}{h:H}{v:AV}{L:List (List AV)}{K:AV→Prop}(hr:Rd sz h v L)(hi:i<L.length)(hj:j<L[i].length)(hk:K L[i][j]):Cc sz i v fun a=>Ac j a fun a=>Go.Den.ld1 a h K:=
 hr.elem hi fun q o _ _ ha=>by rw[Ae];exact ha.ld1 hj hk
theorem Rd.all{sz i:Nat}{h:H}{v:AV}{L:List (List AV)}{K:AV→Prop}(hr:Rd sz h v L)(hi:i<L.length)(hz:L[i].length=sz)(hk:K (.agg L[i])):Cc sz i v fun a=>Go.Den.ldn sz a h K:=
 hr.elem hi fun q o _ _ ha=>ha.ldn hz hk
theorem Aa6(ds:List AV)(t:Tm):Dy (Aj ds 0 t) ds.length 0=ds:=by
 rw[Kc]
 apply List.ext_getElem
 · simp
 · intro i h1 h2
   simp only[List.getElem_map,List.getElem_range]
   rw[Ah,if_pos (by omega),List.getD_eq_getElem?_getD,List.getElem?_eq_getElem (by omega)]
   simp
theorem Yn{h:H}{sz:Nat}{ds:List AV}{t:Tm}{e:TypeId}(hd:ds.length=sz):Ck (h.new (.row (Aj ds 0 t) sz 0 e true)) sz (.slice h.next 0 1 sz true)=some (1,ds):=by
 show(Bool.rec none (Option.rec none (fun cs=>some (1,cs)) ((h.new (.row (Aj ds 0 t) sz 0 e true)).read h.next 0 (Nat.mul 1 sz))) (Nat.beq sz sz):Option (Nat×List AV))=_
 rw[Nat.beq_refl]
 have hr:(h.new (.row (Aj ds 0 t) sz 0 e true)).read h.next 0 (Nat.mul 1 sz)=some ds:=by
  show Hp.Ix _ _ _ _ _ _=_
  unfold Hp.Ix
  rw[Bc]
  show Nb 0 (Nat.mul 1 sz) none some (Aj ds 0 t) sz=_
  unfold Nb
  have:Nat.mul 1 sz=ds.length:=by show 1*sz=_;omega
  rw[this,Aa6,show Nat.ble (Nat.add 0 ds.length) sz=true from Nat.ble_eq_true_of_le (by show 0+ds.length≤sz;omega)]
 rw[hr]
theorem Ld.nil{sz o:Nat}{t:Tm}:Ld sz o t []:=fun i hi=>absurd hi (Nat.not_lt_zero _)
theorem Ld.app{sz:Nat}{t:Tm}{L:List (List AV)}{ds:List AV}(hr:Ld sz 0 t L)(hd:ds.length=sz):Ld sz 0 (Aj ds (L.length*sz) t) (L++[ds]):=by
 intro i hi
 rw[List.length_append,List.length_singleton] at hi
 by_cases e:i<L.length
 · rw[List.getElem_append_left e]
   refine⟨(hr i e).1,fun j hj=>?_⟩
   have:(i+1)*sz≤L.length*sz:=Nat.mul_le_mul_right _ e
   rw[Nat.succ_mul] at this
   have hj':j<sz:=by rw[←(hr i e).1];exact hj
   rw[Ah,if_neg (by omega)]
   exact(hr i e).2 j hj
 · have ei:i=L.length:=by omega
   subst ei
   rw[List.getElem_append_right (Nat.le_refl _)]
   simp only[Nat.sub_self,List.getElem_cons_zero]
   refine⟨hd,fun j hj=>?_⟩
   rw[Ah,if_pos (by omega),List.getD_eq_getElem?_getD,show 0+L.length*sz+j-L.length*sz=j by omega,List.getElem?_eq_getElem hj]
   rfl
theorem Bj5{e:TypeId}{sz lo:Nat}{ei:TI}{h:H}{v x:AV}{L:List (List AV)}{ds:List AV}(hb:Cb e sz lo h v L)(hx:Ck h sz x=some (1,ds))(hd:ds.length=sz)(hsz:ei.size=sz)(hf:Bv ei (L.length+1)=true)(hlo:lo≤h.next.nat):
 ∃v' h',Co (some false) v x h e ei=some (v',h')∧Cb e sz lo h' v' (L++[ds])∧h.next.nat≤h'.next.nat∧∀c,c.nat<h.next.nat→(∀o n z b,v≠.slice c o n z b)→h'.at c=h.at c:=by
 have hl:Fh v=L.length:=by rcases hb with⟨rfl,rfl⟩|⟨_,_,_,_,_,rfl,_⟩<;>rfl
 have hok:Fe v=true:=by rcases hb with⟨rfl,rfl⟩|⟨_,_,_,_,_,rfl,_⟩<;>rfl
 have e0:Co (some false) v x h e ei=Gy e sz v 1 ds h:=by
  show(Option.rec none (fun p=>Bool.rec none (Bool.rec (Gy e ei.size v p.1 p.2 h) (some (v,h)) (Nat.beq p.1 0)) (An (Fe v) (Bv ei (Nat.add (Fh v) p.1)))) (Ck h ei.size x):Option (AV×H))=_
  rw[hsz,hx]
  show(Bool.rec none (Gy e sz v 1 ds h) (An (Fe v) (Bv ei (Nat.add (Fh v) 1))):Option (AV×H))=_
  rw[hl,hok,show Bv ei (Nat.add L.length 1)=true from hf];rfl
 rw[e0]
 rcases hb with⟨rfl,rfl⟩|⟨q,t,m,z,w,rfl,h1,h2,h3,h4,h5,h6⟩
 · refine⟨.slice h.next 0 1 sz false,h.new (.row (Aj ds 0 .e) (Nat.mul 1 sz) 0 e false),rfl,.inr ⟨h.next,Aj ds 0 .e,Nat.mul 1 sz,0,false,rfl,hlo,by rw[Bf];omega,Bc _ _,Nat.le_refl _,Nat.zero_le _,?_⟩,by rw[Bf];omega,fun c hc _=>Gq hc⟩
   have:=Ld.app (t:=.e) (Ld.nil (sz:=sz) (o:=0)) hd
   rwa [show([]:List (List AV)).length*sz=0 by simp] at this
 · have e1:Gy e sz (.slice q 0 L.length sz false) 1 ds h=(Bool.rec none (Tu e q 0 L.length 1 sz ds h (Em (h.at q))) (Nat.beq sz sz):Option (AV×H)):=rfl
   rw[e1,Nat.beq_refl,h3]
   show∃v' h',(Bool.rec none (some (.slice h.next 0 (Nat.add L.length 1) sz false,(h.put q .dead).new (.row (Aj ds (Nat.add 0 (Nat.mul L.length sz)) t) (Nat.add 0 (Nat.mul (Nat.add L.length 1) sz)) z e false)))
    (An (An (Nat.beq e e) (Nat.beq 0 0)) (An (Nat.ble (Nat.add 0 (Nat.mul L.length sz)) m) (Nat.ble z (Nat.add 0 (Nat.mul L.length sz))))):Option (AV×H))=some (v',h')∧_
   have a1:Nat.add 0 (Nat.mul L.length sz)=L.length*sz:=Nat.zero_add _
   rw[a1,Nat.beq_refl,Nat.ble_eq_true_of_le h4,Nat.ble_eq_true_of_le h5]
   refine⟨_,_,rfl,.inr ⟨h.next,_,_,z,false,?_,hlo,?_,Bc (h.put q .dead) _,?_,?_,h6.app hd⟩,?_,fun c hc hne=>?_⟩
   · rw[List.length_append];rfl
   · show h.next.nat<(P.succ h.next).nat
     rw[P.Dx];omega
   · rw[List.length_append]
     show(L.length+1)*sz≤0+(L.length+1)*sz
     omega
   · rw[List.length_append,Nat.add_mul];omega
   · show h.next.nat≤(P.succ h.next).nat
     rw[P.Dx];omega
   · have hcq:c≠q:=fun e'=>hne _ _ _ _ (by rw[e'])
     rw[Gq (show c.nat<(h.put q .dead).next.nat from hc),Az hcq]
theorem Cb.frame{e:TypeId}{sz lo:Nat}{h h':H}{v:AV}{L:List (List AV)}(hb:Cb e sz lo h v L)(hn:h.next.nat≤h'.next.nat)(hf:∀c,c.nat<h.next.nat→lo≤c.nat→(∀t m z w,h.at c=.row t m z e w→h'.at c=h.at c)):Cb e sz lo h' v L:=by
 rcases hb with⟨rfl,rfl⟩|⟨q,t,m,z,w,rfl,h1,h2,h3,h4⟩
 · exact .inl ⟨rfl,rfl⟩
 · exact .inr ⟨q,t,m,z,w,rfl,h1,by omega,by rw[hf q h2 h1 _ _ _ _ h3];exact h3,h4⟩
def Kp(e:TypeId)(lo:Nat)(h h':H):Prop:=h.next.nat≤h'.next.nat∧∀c,c.nat<h.next.nat→(c.nat<lo∨∃t m z e' w,h.at c=.row t m z e' w∧e'≠e)→h'.at c=h.at c
theorem Kp.new{e:TypeId}{lo:Nat}{h:H}{o:Ob FT}:Kp e lo h (h.new o):=⟨by rw[Bf];omega,fun _ hc _=>Gq hc⟩
theorem Kp.trans{e:TypeId}{lo:Nat}{h h1 h2:H}(a:Kp e lo h h1)(b:Kp e lo h1 h2):Kp e lo h h2:=by
 refine⟨Nat.le_trans a.1 b.1,fun c hc hh=>?_⟩
 have e1:=a.2 c hc hh
 rw[b.2 c (Nat.lt_of_lt_of_le hc a.1) (by rw[e1];exact hh),e1]
def Exh(h h':H):Prop:=h.next.nat≤h'.next.nat∧∀c,c.nat<h.next.nat→h'.at c=h.at c
theorem Exh.refl{h:H}:Exh h h:=⟨Nat.le_refl _,fun _ _=>rfl⟩
theorem Exh.trans{h h1 h2:H}(a:Exh h h1)(b:Exh h1 h2):Exh h h2:=⟨Nat.le_trans a.1 b.1,fun c hc=>by rw[b.2 c (Nat.lt_of_lt_of_le hc a.1),a.2 c hc]⟩
theorem Exh.new{h:H}{o:Ob FT}:Exh h (h.new o):=⟨by rw[Bf];omega,fun _ hc=>Gq hc⟩
theorem Exh.kp{e:TypeId}{lo:Nat}{hE h h':H}(a:Exh hE h)(hl:hE.next.nat≤lo)(b:Kp e lo h h'):Exh hE h':=
 ⟨Nat.le_trans a.1 b.1,fun c hc=>by rw[b.2 c (Nat.lt_of_lt_of_le hc a.1) (.inl (by omega)),a.2 c hc]⟩
theorem Rd.ext{sz:Nat}{h h':H}{v:AV}{L:List (List AV)}(hr:Rd sz h v L)(hx:Exh h h'):Rd sz h' v L:=hr.frame hx.1 fun c hc _ _ _ _ _=>hx.2 c hc
theorem Cb.ext{e:TypeId}{sz lo:Nat}{h h':H}{v:AV}{L:List (List AV)}(hb:Cb e sz lo h v L)(hx:Exh h h'):Cb e sz lo h' v L:=hb.frame hx.1 fun c hc _ _ _ _ _ _=>hx.2 c hc
theorem Cb.kp{e e':TypeId}{sz lo lo':Nat}{h h':H}{v:AV}{L:List (List AV)}(hb:Cb e sz lo h v L)(hx:Kp e' lo' h h')(he:e≠e'):Cb e sz lo h' v L:=hb.frame hx.1 fun c hc _ t m z w ha=>hx.2 c hc (.inr ⟨t,m,z,e,w,ha,he⟩)
theorem Bj7{e:TypeId}{sz lo:Nat}{ei:TI}{h:H}{v x:AV}{L:List (List AV)}{ds:List AV}(hb:Cb e sz lo h v L)(hx:Ck h sz x=some (1,ds))(hd:ds.length=sz)(hsz:ei.size=sz)(hf:Bv ei (L.length+1)=true)(hlo:lo≤h.next.nat):
 ∃v' h',Co (some false) v x h e ei=some (v',h')∧Cb e sz lo h' v' (L++[ds])∧Kp e lo h h':=by
 obtain⟨v',h',a,b,c,d⟩:=Bj5 hb hx hd hsz hf hlo
 refine⟨v',h',a,b,c,fun p hp hh=>d p hp fun o n z b' ev=>?_⟩
 rcases hb with⟨rfl,_⟩|⟨q,t,m,z',w,rfl,h1,h2,h3,_⟩
 · cases ev
 · cases ev
   rcases hh with hh|⟨t',m',z'',e',w',hr,hne⟩
   · omega
   · rw[h3] at hr;cases hr;exact hne rfl
theorem Zg{e:TypeId}{sz lo:Nat}{ei:TI}{h:H}{v:AV}{L:List (List AV)}{ds:List AV}{t:Tm}(hb:Cb e sz lo h v L)(hd:ds.length=sz)(hsz:ei.size=sz)(hf:Bv ei (L.length+1)=true)(hlo:lo≤h.next.nat){k:KV}(hk:∀v' h',Cb e sz lo h' v' (L++[ds])→Kp e lo h h'→k v' h'):
 oK (Co (some false) v (.slice h.next 0 1 sz true) (h.new (.row (Aj ds 0 t) sz 0 e true)) e ei) k:=by
 obtain⟨v',h',a,b,c⟩:=Bj7 (hb.ext Exh.new) (Yn hd) hd hsz hf (Nat.le_trans hlo (by rw[Bf];omega))
 rw[a,Ad]
 exact hk _ _ b (Kp.new.trans c)
end Go.Den
noncomputable section
namespace Go.Den
open Go.RowKit
set_option maxRecDepth 100000
def Hz(t:TypeId):TI:=Option.rec ei8 (fun t=>t) (env.ty t)
theorem Lv{ei:TI}{n:Nat}(h1:An (Nat.beq (len ei.zero) ei.size) (Nat.ble 1 ei.size)=true)(hb:Nat.ble ei.bytes 128=true)(hn:n≤1099511627776):Bv ei n=true:=by
 have hb:=Nat.le_of_ble_eq_true hb
 have e:Bv ei n=An (An (Nat.beq (len ei.zero) ei.size) (Nat.ble 1 ei.size)) (An (Nat.ble n 1099511627776) (Nat.ble (Nat.mul n ei.bytes) 140737488355328)):=rfl
 have h3:n*ei.bytes≤1099511627776*128:=Nat.mul_le_mul hn hb
 rw[e,h1,Nat.ble_eq_true_of_le hn,Nat.ble_eq_true_of_le (show Nat.mul n ei.bytes≤140737488355328 from h3)];rfl
def Z69:Tm:=Aj [.int .u8 (.ofNat 0),.int .i64 (.ofNat 0),.int .i64 (.ofNat 0)] 0 .e
theorem Bju(a b c:AV)(h:H):Ap env 65 (fun e ei=>Ak 1 [(0,.agg [a,b,c])] h e ei)=some (.slice h.next 0 1 3 true,h.new (.row (Aj [a,b,c] 0 Z69) 3 0 70 true)):=by kernel_rfl
theorem Bj8(x y:AV)(h:H):Ar env .append [65,65] [x,y] h=Co (some false) x y h 70 (Hz 70):=by kernel_rfl
theorem A3o(a b c:Int)(h:H):Ax env (env.ty 70) [(0,.int .u8 a),(1,.int .i64 b),(2,.int .i64 c)] h=some (.agg [.int .u8 a,.int .i64 b,.int .i64 c],h):=by kernel_rfl
theorem Bmh:(Hz 70).size=3:=by kernel_rfl
theorem A8x{n:Nat}(hn:n≤1099511627776):Bv (Hz 70) n=true:=Lv (by kernel_rfl) (by kernel_rfl) hn
theorem Ayh{lo:Nat}{h:H}{v:AV}{L:List (List AV)}{a b c:AV}(hb:Cb 70 3 lo h v L)(hl:L.length+1≤1099511627776)(hlo:lo≤h.next.nat){k:KV}(hk:∀v' h',Cb 70 3 lo h' v' (L++[[a,b,c]])→Kp 70 lo h h'→k v' h'):
 oK (Ap env 65 (fun e ei=>Ak 1 [(0,.agg [a,b,c])] h e ei)) fun x h'=>oK (Ar env .append [65,65] [v,x] h') k:=by
 rw[Bju,Ad,Bj8]
 exact Zg hb rfl Bmh (A8x hl) hlo hk
def bt(B:List UInt8)(i:Nat):UInt8:=B.getD i 0
theorem Jk{B:List UInt8}{i:Nat}(h:i<B.length):bt B i=B[i]:=by unfold bt;rw[List.getD_eq_getElem?_getD,List.getElem?_eq_getElem h];rfl
theorem Qb{B:List UInt8}{i:Nat}(h:B.length≤i):bt B i=0:=by unfold bt;rw[List.getD_eq_getElem?_getD,List.getElem?_eq_none h];rfl
def El(x:UInt8):Bool:=(decide (97≤x.toNat)&&decide (x.toNat≤122))||(decide (65≤x.toNat)&&decide (x.toNat≤90))||decide (x.toNat=95)
def isDigit(x:UInt8):Bool:=decide (48≤x.toNat)&&decide (x.toNat≤57)
def Ov(x:UInt8):Bool:=decide (x.toNat=32)||decide (x.toNat=9)||(decide (11≤x.toNat)&&decide (x.toNat≤13))
end Go.Den
