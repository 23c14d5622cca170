/-
 Proof.
-/
import Derived.Test.YtcnmehbkpaoolaaGreatDoorByt1
namespace Go.Den
open Go.RowKit
set_option maxRecDepth 100000
theorem ilt(a b:Nat):Cl (Int.ofNat a) (Int.ofNat b)=decide (a<b):=by
 rw[Gf];exact decide_eq_decide.2 Int.ofNat_lt
theorem ile(a b:Nat):Fw (Int.ofNat a) (Int.ofNat b)=decide (a≤b):=by
 rw[Jh];exact decide_eq_decide.2 Int.ofNat_le
theorem Ld(a b:Nat):Ba (Int.ofNat a) (Int.ofNat b)=decide (a=b):=by
 rw[Fx];exact decide_eq_decide.2 ⟨fun e=>Int.ofNat.inj e,fun e=>by rw[e]⟩
theorem Akv(a b:UInt8):Ba (Int.ofNat a.toNat) (Int.ofNat b.toNat)=decide (a=b):=by
 rw[Ld];exact decide_eq_decide.2 ⟨fun e=>UInt8.toNat_inj.1 e,fun e=>by rw[e]⟩
theorem Xe{a b:Nat}(h:b≤a):Hw (Int.ofNat a) (Int.ofNat b)=Int.ofNat (a-b):=by
 rw[Og];exact(Int.ofNat_sub h).symm
theorem Ea(a b:Nat):Cd (Int.ofNat a) (Int.ofNat b)=Int.ofNat (a+b):=by rw[Ii];rfl
def Vx(sz o:Nat)(t:Tm)(L:List (List AV)):Prop:=∀i (hi:i<L.length),L[i].length=sz∧∀j (hj:j<L[i].length),Bn t (o+i*sz+j)=L[i][j]
def Adf(h:H)(q:P)(c:Nat→AV)(m:Nat):Prop:=(∃t z e w,h.at q=.row t m z e w∧c=Bn t)∨h.at q=.ext c m
theorem Adf.frame{h h':H}{q:P}{c:Nat→AV}{m:Nat}(f:Adf h q c m)(e:h'.at q=h.at q):Adf h' q c m:=by unfold Adf;rw[e];exact f
def AtP(h:H)(q:P)(o:Nat)(cs:List AV):Prop:=∃c m,Adf h q c m∧o+cs.length≤m∧∀j (hj:j<cs.length),c (o+j)=cs[j]
theorem AtP.row{h:H}{q:P}{o:Nat}{cs:List AV}(t:Tm)(m z:Nat)(e:TypeId)(w:Bool)(h1:h.at q=.row t m z e w)(h2:o+cs.length≤m)(h3:∀j (hj:j<cs.length),Bn t (o+j)=cs[j]):AtP h q o cs:=⟨Bn t,m,.inl ⟨t,z,e,w,h1,rfl⟩,h2,h3⟩
def Bll(sz o:Nat)(c:Nat→AV)(L:List (List AV)):Prop:=∀i (hi:i<L.length),L[i].length=sz∧∀j (hj:j<L[i].length),c (o+i*sz+j)=L[i][j]
def Rd(sz:Nat)(h:H)(v:AV)(L:List (List AV)):Prop:=∃q o c m b,v=.slice q o L.length sz b∧q.nat<h.next.nat∧Adf h q c m∧o+L.length*sz≤m∧Bll sz o c L
theorem Rd.row{sz:Nat}{h:H}{v:AV}{L:List (List AV)}(q:P)(o:Nat)(t:Tm)(m z:Nat)(e:TypeId)(w b:Bool)(h0:v=.slice q o L.length sz b)(h1:q.nat<h.next.nat)(h2:h.at q=.row t m z e w)(h3:o+L.length*sz≤m)(h4:Vx sz o t L):Rd sz h v L:=⟨q,o,Bn t,m,b,h0,h1,.inl ⟨t,z,e,w,h2,rfl⟩,h3,h4⟩
def Ct(e:TypeId)(sz lo:Nat)(h:H)(v:AV)(L:List (List AV)):Prop:=(v=.Af∧L=[])∨∃q t m z w,v=.slice q 0 L.length sz false∧lo≤q.nat∧q.nat<h.next.nat∧h.at q=.row t m z e w∧L.length*sz≤m∧z≤L.length*sz∧Vx sz 0 t L
theorem Ct.rd{e:TypeId}{sz lo:Nat}{h:H}{v:AV}{L:List (List AV)}(hb:Ct e sz lo h v L)(hL:L≠[]):Rd sz h v L:=by
 rcases hb with⟨_,rfl⟩|⟨q,t,m,z,w,rfl,_,h2,h3,h4,_,h6⟩
 · exact absurd rfl hL
 · exact .row q 0 t m z e w false rfl h2 h3 (by omega) h6
theorem Ct.one{e:TypeId}{sz lo:Nat}{h:H}{v:AV}{L:List (List AV)}(hb:Ct e sz lo h v L):v.one=true:=by
 rcases hb with⟨rfl,_⟩|⟨_,_,_,_,_,rfl,_⟩<;>rfl
theorem Ct.len{e:TypeId}{sz lo:Nat}{h:H}{v:AV}{L:List (List AV)}(hb:Ct e sz lo h v L){K:Nat→Prop}:Gn v K=K L.length:=by
 rcases hb with⟨rfl,rfl⟩|⟨_,_,_,_,_,rfl,_⟩<;>rfl
theorem Rd.len{sz:Nat}{h:H}{v:AV}{L:List (List AV)}(hr:Rd sz h v L){K:Nat→Prop}:Gn v K=K L.length:=by
 obtain⟨_,_,_,_,_,rfl,_⟩:=hr;rfl
theorem Rd.frame{sz:Nat}{h h':H}{v:AV}{L:List (List AV)}(hr:Rd sz h v L)(hn:h.next.nat≤h'.next.nat)(hf:∀c,c.nat<h.next.nat→(∀o n z b,v=.slice c o n z b→h'.at c=h.at c)):Rd sz h' v L:=by
 obtain⟨q,o,c,m,b,rfl,h1,h2,h3⟩:=hr
 exact⟨q,o,c,m,b,rfl,by omega,h2.frame (hf q h1 _ _ _ _ rfl),h3⟩
theorem Af1{sz i:Nat}{q:P}{o n:Nat}{b:Bool}{K:AV→Prop}(hi:i<n)(hk:K (.ptr q (o+i*sz))):Dd sz i (.slice q o n sz b) K:=by
 show Bool.rec Am (fN (Nat.add o (Nat.mul i sz)) (fun q'=>K (.ptr q q'))) (Ai (Nat.ble (Nat.add i 1) n) (Nat.beq sz sz))
 rw[show Nat.ble (Nat.add i 1) n=true from Nat.ble_eq_true_of_le hi,Nat.beq_refl]
 exact hk
theorem Rd.elem{sz i:Nat}{h:H}{v:AV}{L:List (List AV)}{K:AV→Prop}(hr:Rd sz h v L)(hi:i<L.length)(hk:∀q o,q.nat<h.next.nat→(∃o n z b,v=.slice q o n z b)→AtP h q o L[i]→K (.ptr q o)):Dd sz i v K:=by
 obtain⟨q,o,c,m,b,rfl,h1,h2,h3,h4⟩:=hr
 refine Af1 hi (hk _ _ h1 ⟨_,_,_,_,rfl⟩ ⟨c,m,h2,?_,?_⟩)
 · rw[(h4 i hi).1]
   have:(i+1)*sz≤L.length*sz:=Nat.mul_le_mul_right _ hi
   rw[Nat.succ_mul] at this
   omega
 · exact(h4 i hi).2
theorem An{q:P}{o j:Nat}{K:AV→Prop}:As j (.ptr q o) K=K (.ptr q (o+j)):=rfl
theorem Bi5{h:H}{b:P}{c:Nat→AV}{n o:Nat}{K:AV→Prop}(ha:h.at b=.ext c n)(ho:o<n)(hk:K (c o)):Go.Den.ld1 (.ptr b o) h K:=by
 show h.Hg b o Am K
 unfold Hp.Hg
 rw[ha]
 show Su o Am K c n
 unfold Su
 rw[show Nat.ble (Nat.add o 1) n=true from Nat.ble_eq_true_of_le ho]
 show Ca (c o) K
 rw[Cc];exact hk
theorem Xh(c:Nat→AV):∀(n o:Nat),Cv c n o=(List.range n).map fun i=>c (o+i)
 |0,_=>rfl
 |n+1,o=>by
  show c o::Cv c n (Nat.add o 1)=_
  rw[Xh c n,List.range_succ_eq_map,List.map_cons,List.map_map]
  congr 1
  exact List.map_congr_left fun i _=>by show c (o+1+i)=c (o+(i+1));congr 1;omega
theorem AtP.ld1{h:H}{q:P}{o j:Nat}{cs:List AV}{K:AV→Prop}(ha:AtP h q o cs)(hj:j<cs.length)(hk:K cs[j]):ld1 (.ptr q (o+j)) h K:=by
 obtain⟨c,m,h1,h2,h3⟩:=ha
 rcases h1 with⟨t,z,e,w,h1,rfl⟩|h1
 · refine Dg h1 (by omega) ?_
   rw[h3 j hj];exact hk
 · refine Bi5 h1 (by omega) ?_
   rw[h3 j hj];exact hk
theorem AtP.ldn{h:H}{q:P}{o c:Nat}{cs:List AV}{K:AV→Prop}(ha:AtP h q o cs)(hj:cs.length=c)(hk:K (.agg cs)):ldn c (.ptr q o) h K:=by
 obtain⟨f,m,h1,h2,h3⟩:=ha
 have hm:(List.range c).map (fun i=>f (o+i))=cs:=by
  apply List.ext_getElem
  · simp[hj]
  · intro i h1 h2
    simp only[List.getElem_map,List.getElem_range]
    exact h3 i h2
 rcases h1 with⟨t,z,e,w,h1,rfl⟩|h1
 · refine Acq h1 (by omega) ?_
   rw[It,hm];exact hk
 · show h.Ht q o c Am (fun l=>K (.agg l))
   unfold Hp.Ht
   rw[h1]
   show Ahe o c Am (fun l=>K (.agg l)) f m
   unfold Ahe
   rw[show Nat.ble (Nat.add o c) m=true from Nat.ble_eq_true_of_le (by show o+c≤m;omega),Xh,hm]
   exact hk
theorem AtP.frame{h h':H}{q:P}{o:Nat}{cs:List AV}(ha:AtP h q o cs)(hf:h'.at q=h.at q):AtP h' q o cs:=by
 obtain⟨c,m,h1,h2⟩:=ha
 exact⟨c,m,h1.frame hf,h2⟩
theorem Rd.fld{sz i j:Nat}{h:H}{v:AV}{L:List (List AV)}{K:AV→Prop}(hr:Rd sz h v L)(hi:i<L.length)(hj:j<L[i].length)(hk:K L[i][j]):Dd sz i v fun a=>As j a fun a=>Go.Den.ld1 a h K:=
 hr.elem hi fun q o _ _ ha=>by rw[An];exact ha.ld1 hj hk
theorem Rd.all{sz i:Nat}{h:H}{v:AV}{L:List (List AV)}{K:AV→Prop}(hr:Rd sz h v L)(hi:i<L.length)(hz:L[i].length=sz)(hk:K (.agg L[i])):Dd sz i v fun a=>Go.Den.ldn sz a h K:=
 hr.elem hi fun q o _ _ ha=>ha.ldn hz hk
theorem Aak(ds:List AV)(t:Tm):Da (Aj ds 0 t) ds.length 0=ds:=by
 rw[It]
 apply List.ext_getElem
 · simp
 · intro i h1 h2
   simp only[List.getElem_map,List.getElem_range]
   rw[Av,if_pos (by omega),List.getD_eq_getElem?_getD,List.getElem?_eq_getElem (by omega)]
   simp
theorem Afe{h:H}{sz:Nat}{ds:List AV}{t:Tm}{e:TypeId}(hd:ds.length=sz):Ce (h.new (.row (Aj ds 0 t) sz 0 e true)) sz (.slice h.next 0 1 sz true)=some (1,ds):=by
 show(Bool.rec none (Option.rec none (fun cs=>some (1,cs)) ((h.new (.row (Aj ds 0 t) sz 0 e true)).read h.next 0 (Nat.mul 1 sz))) (Nat.beq sz sz):Option (Nat×List AV))=_
 rw[Nat.beq_refl]
 have hr:(h.new (.row (Aj ds 0 t) sz 0 e true)).read h.next 0 (Nat.mul 1 sz)=some ds:=by
  show Hp.Ht _ _ _ _ _ _=_
  unfold Hp.Ht
  rw[Ax]
  show Pz 0 (Nat.mul 1 sz) none some (Aj ds 0 t) sz=_
  unfold Pz
  have:Nat.mul 1 sz=ds.length:=by show 1*sz=_;omega
  rw[this,Aak,show Nat.ble (Nat.add 0 ds.length) sz=true from Nat.ble_eq_true_of_le (by show 0+ds.length≤sz;omega)]
 rw[hr]
theorem Vx.nil{sz o:Nat}{t:Tm}:Vx sz o t []:=fun i hi=>absurd hi (Nat.not_lt_zero _)
theorem Vx.app{sz:Nat}{t:Tm}{L:List (List AV)}{ds:List AV}(hr:Vx sz 0 t L)(hd:ds.length=sz):Vx sz 0 (Aj ds (L.length*sz) t) (L++[ds]):=by
 intro i hi
 rw[List.length_append,List.length_singleton] at hi
 by_cases e:i<L.length
 · rw[List.getElem_append_left e]
   refine⟨(hr i e).1,fun j hj=>?_⟩
   have:(i+1)*sz≤L.length*sz:=Nat.mul_le_mul_right _ e
   rw[Nat.succ_mul] at this
   have hj':j<sz:=by rw[←(hr i e).1];exact hj
   rw[Av,if_neg (by omega)]
   exact(hr i e).2 j hj
 · have ei:i=L.length:=by omega
   subst ei
   rw[List.getElem_append_right (Nat.le_refl _)]
   simp only[Nat.sub_self,List.getElem_cons_zero]
   refine⟨hd,fun j hj=>?_⟩
   rw[Av,if_pos (by omega),List.getD_eq_getElem?_getD,show 0+L.length*sz+j-L.length*sz=j by omega,List.getElem?_eq_getElem hj]
   rfl
theorem Bgm{e:TypeId}{sz lo:Nat}{ei:TI}{h:H}{v x:AV}{L:List (List AV)}{ds:List AV}(hb:Ct e sz lo h v L)(hx:Ce h sz x=some (1,ds))(hd:ds.length=sz)(hsz:ei.size=sz)(hf:Db ei (L.length+1)=true)(hlo:lo≤h.next.nat):
 ∃v' h',Dv (some false) v x h e ei=some (v',h')∧Ct e sz lo h' v' (L++[ds])∧h.next.nat≤h'.next.nat∧∀c,c.nat<h.next.nat→(∀o n z b,v≠.slice c o n z b)→h'.at c=h.at c:=by
 have hl:Gb v=L.length:=by rcases hb with⟨rfl,rfl⟩|⟨_,_,_,_,_,rfl,_⟩<;>rfl
 have hok:Gu v=true:=by rcases hb with⟨rfl,rfl⟩|⟨_,_,_,_,_,rfl,_⟩<;>rfl
 have e0:Dv (some false) v x h e ei=Lv e sz v 1 ds h:=by
  show(Option.rec none (fun p=>Bool.rec none (Bool.rec (Lv e ei.size v p.1 p.2 h) (some (v,h)) (Nat.beq p.1 0)) (Ai (Gu v) (Db ei (Nat.add (Gb v) p.1)))) (Ce h ei.size x):Option (AV×H))=_
  rw[hsz,hx]
  show(Bool.rec none (Lv e sz v 1 ds h) (Ai (Gu v) (Db ei (Nat.add (Gb v) 1))):Option (AV×H))=_
  rw[hl,hok,show Db ei (Nat.add L.length 1)=true from hf];rfl
 rw[e0]
 rcases hb with⟨rfl,rfl⟩|⟨q,t,m,z,w,rfl,h1,h2,h3,h4,h5,h6⟩
 · refine⟨.slice h.next 0 1 sz false,h.new (.row (Aj ds 0 .e) (Nat.mul 1 sz) 0 e false),rfl,.inr ⟨h.next,Aj ds 0 .e,Nat.mul 1 sz,0,false,rfl,hlo,by rw[Bh];omega,Ax _ _,Nat.le_refl _,Nat.zero_le _,?_⟩,by rw[Bh];omega,fun c hc _=>Dw hc⟩
   have:=Vx.app (t:=.e) (Vx.nil (sz:=sz) (o:=0)) hd
   rwa [show([]:List (List AV)).length*sz=0 by simp] at this
 · have e1:Lv e sz (.slice q 0 L.length sz false) 1 ds h=(Bool.rec none (Wq e q 0 L.length 1 sz ds h (Em (h.at q))) (Nat.beq sz sz):Option (AV×H)):=rfl
   rw[e1,Nat.beq_refl,h3]
   show∃v' h',(Bool.rec none (some (.slice h.next 0 (Nat.add L.length 1) sz false,(h.put q .dead).new (.row (Aj ds (Nat.add 0 (Nat.mul L.length sz)) t) (Nat.add 0 (Nat.mul (Nat.add L.length 1) sz)) z e false)))
    (Ai (Ai (Nat.beq e e) (Nat.beq 0 0)) (Ai (Nat.ble (Nat.add 0 (Nat.mul L.length sz)) m) (Nat.ble z (Nat.add 0 (Nat.mul L.length sz))))):Option (AV×H))=some (v',h')∧_
   have a1:Nat.add 0 (Nat.mul L.length sz)=L.length*sz:=Nat.zero_add _
   rw[a1,Nat.beq_refl,Nat.ble_eq_true_of_le h4,Nat.ble_eq_true_of_le h5]
   refine⟨_,_,rfl,.inr ⟨h.next,_,_,z,false,?_,hlo,?_,Ax (h.put q .dead) _,?_,?_,h6.app hd⟩,?_,fun c hc hne=>?_⟩
   · rw[List.length_append];rfl
   · show h.next.nat<(P.succ h.next).nat
     rw[P.Ej];omega
   · rw[List.length_append]
     show(L.length+1)*sz≤0+(L.length+1)*sz
     omega
   · rw[List.length_append,Nat.add_mul];omega
   · show h.next.nat≤(P.succ h.next).nat
     rw[P.Ej];omega
   · have hcq:c≠q:=fun e'=>hne _ _ _ _ (by rw[e'])
     rw[Dw (show c.nat<(h.put q .dead).next.nat from hc),Cr hcq]
theorem Ct.frame{e:TypeId}{sz lo:Nat}{h h':H}{v:AV}{L:List (List AV)}(hb:Ct e sz lo h v L)(hn:h.next.nat≤h'.next.nat)(hf:∀c,c.nat<h.next.nat→lo≤c.nat→(∀t m z w,h.at c=.row t m z e w→h'.at c=h.at c)):Ct e sz lo h' v L:=by
 rcases hb with⟨rfl,rfl⟩|⟨q,t,m,z,w,rfl,h1,h2,h3,h4⟩
 · exact .inl ⟨rfl,rfl⟩
 · exact .inr ⟨q,t,m,z,w,rfl,h1,by omega,by rw[hf q h2 h1 _ _ _ _ h3];exact h3,h4⟩
def Kp(e:TypeId)(lo:Nat)(h h':H):Prop:=h.next.nat≤h'.next.nat∧∀c,c.nat<h.next.nat→(c.nat<lo∨∃t m z e' w,h.at c=.row t m z e' w∧e'≠e)→h'.at c=h.at c
theorem Kp.new{e:TypeId}{lo:Nat}{h:H}{o:Ob FT}:Kp e lo h (h.new o):=⟨by rw[Bh];omega,fun _ hc _=>Dw hc⟩
theorem Kp.trans{e:TypeId}{lo:Nat}{h h1 h2:H}(a:Kp e lo h h1)(b:Kp e lo h1 h2):Kp e lo h h2:=by
 refine⟨Nat.le_trans a.1 b.1,fun c hc hh=>?_⟩
 have e1:=a.2 c hc hh
 rw[b.2 c (Nat.lt_of_lt_of_le hc a.1) (by rw[e1];exact hh),e1]
def Exh(h h':H):Prop:=h.next.nat≤h'.next.nat∧∀c,c.nat<h.next.nat→h'.at c=h.at c
theorem Exh.refl{h:H}:Exh h h:=⟨Nat.le_refl _,fun _ _=>rfl⟩
theorem Exh.trans{h h1 h2:H}(a:Exh h h1)(b:Exh h1 h2):Exh h h2:=⟨Nat.le_trans a.1 b.1,fun c hc=>by rw[b.2 c (Nat.lt_of_lt_of_le hc a.1),a.2 c hc]⟩
theorem Exh.new{h:H}{o:Ob FT}:Exh h (h.new o):=⟨by rw[Bh];omega,fun _ hc=>Dw hc⟩
theorem Exh.kp{e:TypeId}{lo:Nat}{hE h h':H}(a:Exh hE h)(hl:hE.next.nat≤lo)(b:Kp e lo h h'):Exh hE h':=
 ⟨Nat.le_trans a.1 b.1,fun c hc=>by rw[b.2 c (Nat.lt_of_lt_of_le hc a.1) (.inl (by omega)),a.2 c hc]⟩
theorem Rd.ext{sz:Nat}{h h':H}{v:AV}{L:List (List AV)}(hr:Rd sz h v L)(hx:Exh h h'):Rd sz h' v L:=hr.frame hx.1 fun c hc _ _ _ _ _=>hx.2 c hc
theorem Ct.ext{e:TypeId}{sz lo:Nat}{h h':H}{v:AV}{L:List (List AV)}(hb:Ct e sz lo h v L)(hx:Exh h h'):Ct e sz lo h' v L:=hb.frame hx.1 fun c hc _ _ _ _ _ _=>hx.2 c hc
theorem Ct.kp{e e':TypeId}{sz lo lo':Nat}{h h':H}{v:AV}{L:List (List AV)}(hb:Ct e sz lo h v L)(hx:Kp e' lo' h h')(he:e≠e'):Ct e sz lo h' v L:=hb.frame hx.1 fun c hc _ t m z w ha=>hx.2 c hc (.inr ⟨t,m,z,e,w,ha,he⟩)
theorem Bgo{e:TypeId}{sz lo:Nat}{ei:TI}{h:H}{v x:AV}{L:List (List AV)}{ds:List AV}(hb:Ct e sz lo h v L)(hx:Ce h sz x=some (1,ds))(hd:ds.length=sz)(hsz:ei.size=sz)(hf:Db ei (L.length+1)=true)(hlo:lo≤h.next.nat):
 ∃v' h',Dv (some false) v x h e ei=some (v',h')∧Ct e sz lo h' v' (L++[ds])∧Kp e lo h h':=by
 obtain⟨v',h',a,b,c,d⟩:=Bgm hb hx hd hsz hf hlo
 refine⟨v',h',a,b,c,fun p hp hh=>d p hp fun o n z b' ev=>?_⟩
 rcases hb with⟨rfl,_⟩|⟨q,t,m,z',w,rfl,h1,h2,h3,_⟩
 · cases ev
 · cases ev
   rcases hh with hh|⟨t',m',z'',e',w',hr,hne⟩
   · omega
   · rw[h3] at hr;cases hr;exact hne rfl
theorem Azz{e:TypeId}{sz lo:Nat}{ei:TI}{h:H}{v:AV}{L:List (List AV)}{ds:List AV}{t:Tm}(hb:Ct e sz lo h v L)(hd:ds.length=sz)(hsz:ei.size=sz)(hf:Db ei (L.length+1)=true)(hlo:lo≤h.next.nat){k:KV}(hk:∀v' h',Ct e sz lo h' v' (L++[ds])→Kp e lo h h'→k v' h'):
 oK (Dv (some false) v (.slice h.next 0 1 sz true) (h.new (.row (Aj ds 0 t) sz 0 e true)) e ei) k:=by
 obtain⟨v',h',a,b,c⟩:=Bgo (hb.ext Exh.new) (Afe hd) hd hsz hf (Nat.le_trans hlo (by rw[Bh];omega))
 rw[a,Ad]
 exact hk _ _ b (Kp.new.trans c)
end Go.Den
noncomputable section
namespace Go.Den
open Go.RowKit
set_option maxRecDepth 100000
def Af2(t:TypeId):TI:=Option.rec ei8 (fun t=>t) (env.ty t)
theorem Akz{ei:TI}{n:Nat}(h1:Ai (Nat.beq (len ei.zero) ei.size) (Nat.ble 1 ei.size)=true)(hb:Nat.ble ei.bytes 128=true)(hn:n≤1099511627776):Db ei n=true:=by
 have hb:=Nat.le_of_ble_eq_true hb
 have e:Db ei n=Ai (Ai (Nat.beq (len ei.zero) ei.size) (Nat.ble 1 ei.size)) (Ai (Nat.ble n 1099511627776) (Nat.ble (Nat.mul n ei.bytes) 140737488355328)):=rfl
 have h3:n*ei.bytes≤1099511627776*128:=Nat.mul_le_mul hn hb
 rw[e,h1,Nat.ble_eq_true_of_le hn,Nat.ble_eq_true_of_le (show Nat.mul n ei.bytes≤140737488355328 from h3)];rfl
theorem A7i(v:AV)(h:H):Fz env h 115 9 v=Yr env 115 v h:=by kernel_rfl
theorem cvb(b:P)(o n:Nat)(h:H):Rq env 115 b o n h=(Option.rec none (fun cs=>Ns h (Fe cs)) (h.read b o n):Option (AV×H)):=by kernel_rfl
theorem Ab6(h:H)(l:List UInt8):Ns h (Fe (ubs l))=some (S l,h):=by
 rw[Vl]
 show some (strOf (l.map (·.toNat)),h)=_
 rw[Ajz]
theorem Zn{h:H}{q:P}{t:Tm}{m z n:Nat}{e:TypeId}{w:Bool}(ha:h.at q=.row t m z e w)(hn:n≤m):h.read q 0 n=some (Da t n 0):=by
 unfold Hp.read Hp.Ht
 rw[ha]
 show(Pz 0 n none some t m:Option (List AV))=_
 unfold Pz
 rw[show Nat.ble (Nat.add 0 n) m=true from Nat.ble_eq_true_of_le (by show 0+n≤m;omega)]
theorem Vg{h:H}{q:P}{t:Tm}{m z:Nat}{w:Bool}{l:List UInt8}{ti:Bool}(ha:h.at q=.row t m z TB w)(hm:l.length≤m)(hc:Dq t l):Fz env h 115 9 (.slice q 0 l.length 1 ti)=some (S l,h):=by
 rw[A7i]
 show Rq env 115 q 0 l.length h=_
 rw[cvb,Zn ha hm,hc.get]
 exact Ab6 h l
def eb(l:List UInt8):List (List AV):=l.map fun x=>[ub x]
theorem Mq(l:List UInt8):(eb l).length=l.length:=by unfold eb;simp
theorem Azc(l:List UInt8)(x:UInt8):eb (l++[x])=eb l++[[ub x]]:=by unfold eb;simp
theorem Af4{l:List UInt8}{i:Nat}(h:i<l.length)(h':i<(eb l).length):(eb l)[i]=[ub l[i]]:=List.getElem_map (fun x=>[ub x]) (h:=h')
theorem Azj{lo:Nat}{h:H}{v:AV}{l:List UInt8}(hb:Ct TB 1 lo h v (eb l)):Fz env h 115 9 v=some (S l,h):=by
 rcases hb with⟨rfl,e⟩|⟨q,t,m,z,w,rfl,h1,h2,h3,h4,h5,h6⟩
 · have:l=[]:=by cases l with
    |nil=>rfl
    |cons x l=>exact absurd e (by unfold eb;simp)
   subst this
   rw[A7i];rfl
 · rw[Mq] at h4
   rw[Mq]
   refine Vg h3 (by omega) fun i hi=>?_
   have:=(h6 i (by rw[Mq];exact hi)).2 0 (by rw[Af4 hi];exact Nat.one_pos)
   simp only[Af4 hi,List.getElem_cons_zero] at this
   rw[←this]
   congr 1;omega
theorem Aws{lo:Nat}{h:H}{v:AV}{l:List UInt8}{x:UInt8}(hb:Ct TB 1 lo h v (eb l))(hl:l.length+1≤1099511627776)(hlo:lo≤h.next.nat){k:KV}(hk:∀v' h',Ct TB 1 lo h' v' (eb (l++[x]))→Kp TB lo h h'→k v' h'):
 oK (Au env 115 (fun e ei=>Ak 1 [(0,.int .u8 (Int.ofNat x.toNat))] h e ei)) fun x h'=>oK (Az env .append [115,115] [v,x] h') k:=by
 rw[All,Ad,Apn]
 exact Azz (ds:=[ub x]) hb rfl (by rfl) (Aip (by rw[Mq];exact hl)) hlo (by rw[←Azc];exact hk)
end Go.Den
noncomputable section
namespace Go.Den
open Go.RowKit
set_option maxRecDepth 100000
def es(l:List (List UInt8)):List (List AV):=l.map fun x=>[S x]
theorem Aux(l:List (List UInt8)):(es l).length=l.length:=by unfold es;simp
theorem A5j{l:List (List UInt8)}{i:Nat}(h:i<l.length)(h':i<(es l).length):(es l)[i]=[S l[i]]:=List.getElem_map (fun x=>[S x]) (h:=h')
theorem Rd.str{h:H}{v:AV}{l:List (List UInt8)}(hr:Rd 1 h v (es l)){i:Nat}(hi:i<l.length){K:AV→Prop}(hk:K (S l[i])):Dd 1 i v fun a=>Go.Den.ld1 a h K:=by
 have hi':i<(es l).length:=by rw[Aux];exact hi
 have hc:=A5j hi hi'
 refine hr.elem hi' fun q o _ _ ha=>?_
 have:=ha.ld1 (j:=0) (K:=K) (by rw[hc];exact Nat.one_pos) (by simp only[hc,List.getElem_cons_zero];exact hk)
 exact this
theorem Aiy{v:AV}{A:Prop}(h:Aa4 4 v v=true)(hA:A):eqC v v A:=by
 show Bool.rec Am A (Aa4 4 v v)
 rw[h];exact hA
theorem avI{n:Nat}{k:IntKind}{a:Int}:Aa4 (n+1) (.int k a) (.int k a)=true:=by
 show Ai (Aii k k) (Ba a a)=true
 rw[Fx,beq_self_eq_true];cases k<;>rfl
theorem avS{n l c:Nat}:Aa4 (n+1) (.str l c) (.str l c)=true:=by
 show Ai (Nat.beq l l) (Nat.beq c c)=true
 rw[Nat.beq_refl,Nat.beq_refl];rfl
end Go.Den
