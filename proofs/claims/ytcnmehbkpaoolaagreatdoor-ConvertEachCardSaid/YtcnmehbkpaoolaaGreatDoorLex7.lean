/-
 Proof.
-/
import Derived.Test.YtcnmehbkpaoolaaGreatDoorByt1
namespace Go.Den
open Go.RowKit
set_option maxRecDepth 100000
theorem ilt(a b:Nat):Cs (Int.ofNat a) (Int.ofNat b)=decide (a<b):=by
 rw[Fl];exact decide_eq_decide.2 Int.ofNat_lt
theorem ile(a b:Nat):Ex (Int.ofNat a) (Int.ofNat b)=decide (a≤b):=by
 rw[Je];exact decide_eq_decide.2 Int.ofNat_le
theorem Ru(a b:Nat):Ba (Int.ofNat a) (Int.ofNat b)=decide (a=b):=by
 rw[Fi];exact decide_eq_decide.2 ⟨fun e=>Int.ofNat.inj e,fun e=>by rw[e]⟩
theorem Oy(a b:UInt8):Ba (Int.ofNat a.toNat) (Int.ofNat b.toNat)=decide (a=b):=by
 rw[Ru];exact decide_eq_decide.2 ⟨fun e=>UInt8.toNat_inj.1 e,fun e=>by rw[e]⟩
theorem Wy{a b:Nat}(h:b≤a):Jj (Int.ofNat a) (Int.ofNat b)=Int.ofNat (a-b):=by
 rw[Uj];exact(Int.ofNat_sub h).symm
theorem De(a b:Nat):Bn (Int.ofNat a) (Int.ofNat b)=Int.ofNat (a+b):=by rw[Hj];rfl
def Mv(sz o:Nat)(t:Tm)(L:List (List AV)):Prop:=∀i (hi:i<L.length),L[i].length=sz∧∀j (hj:j<L[i].length),Bh t (o+i*sz+j)=L[i][j]
def Ac5(h:H)(q:P)(c:Nat→AV)(m:Nat):Prop:=(∃t z e w,h.at q=.row t m z e w∧c=Bh t)∨h.at q=.ext c m
theorem Ac5.frame{h h':H}{q:P}{c:Nat→AV}{m:Nat}(f:Ac5 h q c m)(e:h'.at q=h.at q):Ac5 h' q c m:=by unfold Ac5;rw[e];exact f
def AtP(h:H)(q:P)(o:Nat)(cs:List AV):Prop:=∃c m,Ac5 h q c m∧o+cs.length≤m∧∀j (hj:j<cs.length),c (o+j)=cs[j]
theorem AtP.row{h:H}{q:P}{o:Nat}{cs:List AV}(t:Tm)(m z:Nat)(e:TypeId)(w:Bool)(h1:h.at q=.row t m z e w)(h2:o+cs.length≤m)(h3:∀j (hj:j<cs.length),Bh t (o+j)=cs[j]):AtP h q o cs:=⟨Bh t,m,.inl ⟨t,z,e,w,h1,rfl⟩,h2,h3⟩
def A0w(sz o:Nat)(c:Nat→AV)(L:List (List AV)):Prop:=∀i (hi:i<L.length),L[i].length=sz∧∀j (hj:j<L[i].length),c (o+i*sz+j)=L[i][j]
def Rd(sz:Nat)(h:H)(v:AV)(L:List (List AV)):Prop:=∃q o c m b,v=.slice q o L.length sz b∧q.nat<h.next.nat∧Ac5 h q c m∧o+L.length*sz≤m∧A0w sz o c L
theorem Rd.row{sz:Nat}{h:H}{v:AV}{L:List (List AV)}(q:P)(o:Nat)(t:Tm)(m z:Nat)(e:TypeId)(w b:Bool)(h0:v=.slice q o L.length sz b)(h1:q.nat<h.next.nat)(h2:h.at q=.row t m z e w)(h3:o+L.length*sz≤m)(h4:Mv sz o t L):Rd sz h v L:=⟨q,o,Bh t,m,b,h0,h1,.inl ⟨t,z,e,w,h2,rfl⟩,h3,h4⟩
def Cv(e:TypeId)(sz lo:Nat)(h:H)(v:AV)(L:List (List AV)):Prop:=(v=.Ad∧L=[])∨∃q t m z w,v=.slice q 0 L.length sz false∧lo≤q.nat∧q.nat<h.next.nat∧h.at q=.row t m z e w∧L.length*sz≤m∧z≤L.length*sz∧Mv sz 0 t L
theorem Cv.rd{e:TypeId}{sz lo:Nat}{h:H}{v:AV}{L:List (List AV)}(hb:Cv e sz lo h v L)(hL:L≠[]):Rd sz h v L:=by
 rcases hb with⟨_,rfl⟩|⟨q,t,m,z,w,rfl,_,h2,h3,h4,_,h6⟩
 · exact absurd rfl hL
 · exact .row q 0 t m z e w false rfl h2 h3 (by omega) h6
theorem Cv.one{e:TypeId}{sz lo:Nat}{h:H}{v:AV}{L:List (List AV)}(hb:Cv e sz lo h v L):v.one=true:=by
 rcases hb with⟨rfl,_⟩|⟨_,_,_,_,_,rfl,_⟩<;>rfl
theorem Cv.len{e:TypeId}{sz lo:Nat}{h:H}{v:AV}{L:List (List AV)}(hb:Cv e sz lo h v L){K:Nat→Prop}:Ef v K=K L.length:=by
 rcases hb with⟨rfl,rfl⟩|⟨_,_,_,_,_,rfl,_⟩<;>rfl
theorem Rd.len{sz:Nat}{h:H}{v:AV}{L:List (List AV)}(hr:Rd sz h v L){K:Nat→Prop}:Ef v K=K L.length:=by
 obtain⟨_,_,_,_,_,rfl,_⟩:=hr;rfl
theorem Rd.frame{sz:Nat}{h h':H}{v:AV}{L:List (List AV)}(hr:Rd sz h v L)(hn:h.next.nat≤h'.next.nat)(hf:∀c,c.nat<h.next.nat→(∀o n z b,v=.slice c o n z b→h'.at c=h.at c)):Rd sz h' v L:=by
 obtain⟨q,o,c,m,b,rfl,h1,h2,h3⟩:=hr
 exact⟨q,o,c,m,b,rfl,by omega,h2.frame (hf q h1 _ _ _ _ rfl),h3⟩
theorem Uy{sz i:Nat}{q:P}{o n:Nat}{b:Bool}{K:AV→Prop}(hi:i<n)(hk:K (.ptr q (o+i*sz))):Bz sz i (.slice q o n sz b) K:=by
 show Bool.rec Aj (fN (Nat.add o (Nat.mul i sz)) (fun q'=>K (.ptr q q'))) (Ah (Nat.ble (Nat.add i 1) n) (Nat.beq sz sz))
 rw[show Nat.ble (Nat.add i 1) n=true from Nat.ble_eq_true_of_le hi,Nat.beq_refl]
 exact hk
theorem Rd.elem{sz i:Nat}{h:H}{v:AV}{L:List (List AV)}{K:AV→Prop}(hr:Rd sz h v L)(hi:i<L.length)(hk:∀q o,q.nat<h.next.nat→(∃o n z b,v=.slice q o n z b)→AtP h q o L[i]→K (.ptr q o)):Bz sz i v K:=by
 obtain⟨q,o,c,m,b,rfl,h1,h2,h3,h4⟩:=hr
 refine Uy hi (hk _ _ h1 ⟨_,_,_,_,rfl⟩ ⟨c,m,h2,?_,?_⟩)
 · rw[(h4 i hi).1]
   have:(i+1)*sz≤L.length*sz:=Nat.mul_le_mul_right _ hi
   rw[Nat.succ_mul] at this
   omega
 · exact(h4 i hi).2
theorem Av{q:P}{o j:Nat}{K:AV→Prop}:Am j (.ptr q o) K=K (.ptr q (o+j)):=rfl
theorem Bjh{h:H}{b:P}{c:Nat→AV}{n o:Nat}{K:AV→Prop}(ha:h.at b=.ext c n)(ho:o<n)(hk:K (c o)):Go.Den.ld1 (.ptr b o) h K:=by
 show h.Gp b o Aj K
 unfold Hp.Gp
 rw[ha]
 show Sp o Aj K c n
 unfold Sp
 rw[show Nat.ble (Nat.add o 1) n=true from Nat.ble_eq_true_of_le ho]
 show Bw (c o) K
 rw[By];exact hk
theorem Xa(c:Nat→AV):∀(n o:Nat),Ct c n o=(List.range n).map fun i=>c (o+i)
 |0,_=>rfl
 |n+1,o=>by
  show c o::Ct c n (Nat.add o 1)=_
  rw[Xa c n,List.range_succ_eq_map,List.map_cons,List.map_map]
  congr 1
  exact List.map_congr_left fun i _=>by show c (o+1+i)=c (o+(i+1));congr 1;omega
theorem AtP.ld1{h:H}{q:P}{o j:Nat}{cs:List AV}{K:AV→Prop}(ha:AtP h q o cs)(hj:j<cs.length)(hk:K cs[j]):ld1 (.ptr q (o+j)) h K:=by
 obtain⟨c,m,h1,h2,h3⟩:=ha
 rcases h1 with⟨t,z,e,w,h1,rfl⟩|h1
 · refine Cz h1 (by omega) ?_
   rw[h3 j hj];exact hk
 · refine Bjh h1 (by omega) ?_
   rw[h3 j hj];exact hk
theorem AtP.ldn{h:H}{q:P}{o c:Nat}{cs:List AV}{K:AV→Prop}(ha:AtP h q o cs)(hj:cs.length=c)(hk:K (.agg cs)):ldn c (.ptr q o) h K:=by
 obtain⟨f,m,h1,h2,h3⟩:=ha
 have hm:(List.range c).map (fun i=>f (o+i))=cs:=by
  apply List.ext_getElem
  · simp[hj]
  · intro i h1 h2
    simp only[List.getElem_map,List.getElem_range]
    exact h3 i h2
 rcases h1 with⟨t,z,e,w,h1,rfl⟩|h1
 · refine Acn h1 (by omega) ?_
   rw[Gt,hm];exact hk
 · show h.Hu q o c Aj (fun l=>K (.agg l))
   unfold Hp.Hu
   rw[h1]
   show Ahr o c Aj (fun l=>K (.agg l)) f m
   unfold Ahr
   rw[show Nat.ble (Nat.add o c) m=true from Nat.ble_eq_true_of_le (by show o+c≤m;omega),Xa,hm]
   exact hk
theorem AtP.frame{h h':H}{q:P}{o:Nat}{cs:List AV}(ha:AtP h q o cs)(hf:h'.at q=h.at q):AtP h' q o cs:=by
 obtain⟨c,m,h1,h2⟩:=ha
 exact⟨c,m,h1.frame hf,h2⟩
theorem Rd.fld{sz i j:Nat}{h:H}{v:AV}{L:List (List AV)}{K:AV→Prop}(hr:Rd sz h v L)(hi:i<L.length)(hj:j<L[i].length)(hk:K L[i][j]):Bz sz i v fun a=>Am j a fun a=>Go.Den.ld1 a h K:=
 hr.elem hi fun q o _ _ ha=>by rw[Av];exact ha.ld1 hj hk
theorem Rd.all{sz i:Nat}{h:H}{v:AV}{L:List (List AV)}{K:AV→Prop}(hr:Rd sz h v L)(hi:i<L.length)(hz:L[i].length=sz)(hk:K (.agg L[i])):Bz sz i v fun a=>Go.Den.ldn sz a h K:=
 hr.elem hi fun q o _ _ ha=>ha.ldn hz hk
theorem Aap(ds:List AV)(t:Tm):Cq (Ai ds 0 t) ds.length 0=ds:=by
 rw[Gt]
 apply List.ext_getElem
 · simp
 · intro i h1 h2
   simp only[List.getElem_map,List.getElem_range]
   rw[Ar,if_pos (by omega),List.getD_eq_getElem?_getD,List.getElem?_eq_getElem (by omega)]
   simp
theorem Afo{h:H}{sz:Nat}{ds:List AV}{t:Tm}{e:TypeId}(hd:ds.length=sz):Bv (h.new (.row (Ai ds 0 t) sz 0 e true)) sz (.slice h.next 0 1 sz true)=some (1,ds):=by
 show(Bool.rec none (Option.rec none (fun cs=>some (1,cs)) ((h.new (.row (Ai ds 0 t) sz 0 e true)).read h.next 0 (Nat.mul 1 sz))) (Nat.beq sz sz):Option (Nat×List AV))=_
 rw[Nat.beq_refl]
 have hr:(h.new (.row (Ai ds 0 t) sz 0 e true)).read h.next 0 (Nat.mul 1 sz)=some ds:=by
  show Hp.Hu _ _ _ _ _ _=_
  unfold Hp.Hu
  rw[Ay]
  show Pn 0 (Nat.mul 1 sz) none some (Ai ds 0 t) sz=_
  unfold Pn
  have:Nat.mul 1 sz=ds.length:=by show 1*sz=_;omega
  rw[this,Aap,show Nat.ble (Nat.add 0 ds.length) sz=true from Nat.ble_eq_true_of_le (by show 0+ds.length≤sz;omega)]
 rw[hr]
theorem Mv.nil{sz o:Nat}{t:Tm}:Mv sz o t []:=fun i hi=>absurd hi (Nat.not_lt_zero _)
theorem Mv.app{sz:Nat}{t:Tm}{L:List (List AV)}{ds:List AV}(hr:Mv sz 0 t L)(hd:ds.length=sz):Mv sz 0 (Ai ds (L.length*sz) t) (L++[ds]):=by
 intro i hi
 rw[List.length_append,List.length_singleton] at hi
 by_cases e:i<L.length
 · rw[List.getElem_append_left e]
   refine⟨(hr i e).1,fun j hj=>?_⟩
   have:(i+1)*sz≤L.length*sz:=Nat.mul_le_mul_right _ e
   rw[Nat.succ_mul] at this
   have hj':j<sz:=by rw[←(hr i e).1];exact hj
   rw[Ar,if_neg (by omega)]
   exact(hr i e).2 j hj
 · have ei:i=L.length:=by omega
   subst ei
   rw[List.getElem_append_right (Nat.le_refl _)]
   simp only[Nat.sub_self,List.getElem_cons_zero]
   refine⟨hd,fun j hj=>?_⟩
   rw[Ar,if_pos (by omega),List.getD_eq_getElem?_getD,show 0+L.length*sz+j-L.length*sz=j by omega,List.getElem?_eq_getElem hj]
   rfl
theorem Bgs{e:TypeId}{sz lo:Nat}{ei:TI}{h:H}{v x:AV}{L:List (List AV)}{ds:List AV}(hb:Cv e sz lo h v L)(hx:Bv h sz x=some (1,ds))(hd:ds.length=sz)(hsz:ei.size=sz)(hf:Cf ei (L.length+1)=true)(hlo:lo≤h.next.nat):
 ∃v' h',Dc (some false) v x h e ei=some (v',h')∧Cv e sz lo h' v' (L++[ds])∧h.next.nat≤h'.next.nat∧∀c,c.nat<h.next.nat→(∀o n z b,v≠.slice c o n z b)→h'.at c=h.at c:=by
 have hl:Em v=L.length:=by rcases hb with⟨rfl,rfl⟩|⟨_,_,_,_,_,rfl,_⟩<;>rfl
 have hok:Eu v=true:=by rcases hb with⟨rfl,rfl⟩|⟨_,_,_,_,_,rfl,_⟩<;>rfl
 have e0:Dc (some false) v x h e ei=Ip e sz v 1 ds h:=by
  show(Option.rec none (fun p=>Bool.rec none (Bool.rec (Ip e ei.size v p.1 p.2 h) (some (v,h)) (Nat.beq p.1 0)) (Ah (Eu v) (Cf ei (Nat.add (Em v) p.1)))) (Bv h ei.size x):Option (AV×H))=_
  rw[hsz,hx]
  show(Bool.rec none (Ip e sz v 1 ds h) (Ah (Eu v) (Cf ei (Nat.add (Em v) 1))):Option (AV×H))=_
  rw[hl,hok,show Cf ei (Nat.add L.length 1)=true from hf];rfl
 rw[e0]
 rcases hb with⟨rfl,rfl⟩|⟨q,t,m,z,w,rfl,h1,h2,h3,h4,h5,h6⟩
 · refine⟨.slice h.next 0 1 sz false,h.new (.row (Ai ds 0 .e) (Nat.mul 1 sz) 0 e false),rfl,.inr ⟨h.next,Ai ds 0 .e,Nat.mul 1 sz,0,false,rfl,hlo,by rw[Be];omega,Ay _ _,Nat.le_refl _,Nat.zero_le _,?_⟩,by rw[Be];omega,fun c hc _=>Dd hc⟩
   have:=Mv.app (t:=.e) (Mv.nil (sz:=sz) (o:=0)) hd
   rwa [show([]:List (List AV)).length*sz=0 by simp] at this
 · have e1:Ip e sz (.slice q 0 L.length sz false) 1 ds h=(Bool.rec none (Te e q 0 L.length 1 sz ds h (Dx (h.at q))) (Nat.beq sz sz):Option (AV×H)):=rfl
   rw[e1,Nat.beq_refl,h3]
   show∃v' h',(Bool.rec none (some (.slice h.next 0 (Nat.add L.length 1) sz false,(h.put q .dead).new (.row (Ai ds (Nat.add 0 (Nat.mul L.length sz)) t) (Nat.add 0 (Nat.mul (Nat.add L.length 1) sz)) z e false)))
    (Ah (Ah (Nat.beq e e) (Nat.beq 0 0)) (Ah (Nat.ble (Nat.add 0 (Nat.mul L.length sz)) m) (Nat.ble z (Nat.add 0 (Nat.mul L.length sz))))):Option (AV×H))=some (v',h')∧_
   have a1:Nat.add 0 (Nat.mul L.length sz)=L.length*sz:=Nat.zero_add _
   rw[a1,Nat.beq_refl,Nat.ble_eq_true_of_le h4,Nat.ble_eq_true_of_le h5]
   refine⟨_,_,rfl,.inr ⟨h.next,_,_,z,false,?_,hlo,?_,Ay (h.put q .dead) _,?_,?_,h6.app hd⟩,?_,fun c hc hne=>?_⟩
   · rw[List.length_append];rfl
   · show h.next.nat<(P.succ h.next).nat
     rw[P.Dn];omega
   · rw[List.length_append]
     show(L.length+1)*sz≤0+(L.length+1)*sz
     omega
   · rw[List.length_append,Nat.add_mul];omega
   · show h.next.nat≤(P.succ h.next).nat
     rw[P.Dn];omega
   · have hcq:c≠q:=fun e'=>hne _ _ _ _ (by rw[e'])
     rw[Dd (show c.nat<(h.put q .dead).next.nat from hc),Cd hcq]
theorem Cv.frame{e:TypeId}{sz lo:Nat}{h h':H}{v:AV}{L:List (List AV)}(hb:Cv e sz lo h v L)(hn:h.next.nat≤h'.next.nat)(hf:∀c,c.nat<h.next.nat→lo≤c.nat→(∀t m z w,h.at c=.row t m z e w→h'.at c=h.at c)):Cv e sz lo h' v L:=by
 rcases hb with⟨rfl,rfl⟩|⟨q,t,m,z,w,rfl,h1,h2,h3,h4⟩
 · exact .inl ⟨rfl,rfl⟩
 · exact .inr ⟨q,t,m,z,w,rfl,h1,by omega,by rw[hf q h2 h1 _ _ _ _ h3];exact h3,h4⟩
def Kp(e:TypeId)(lo:Nat)(h h':H):Prop:=h.next.nat≤h'.next.nat∧∀c,c.nat<h.next.nat→(c.nat<lo∨∃t m z e' w,h.at c=.row t m z e' w∧e'≠e)→h'.at c=h.at c
theorem Kp.new{e:TypeId}{lo:Nat}{h:H}{o:Ob FT}:Kp e lo h (h.new o):=⟨by rw[Be];omega,fun _ hc _=>Dd hc⟩
theorem Kp.trans{e:TypeId}{lo:Nat}{h h1 h2:H}(a:Kp e lo h h1)(b:Kp e lo h1 h2):Kp e lo h h2:=by
 refine⟨Nat.le_trans a.1 b.1,fun c hc hh=>?_⟩
 have e1:=a.2 c hc hh
 rw[b.2 c (Nat.lt_of_lt_of_le hc a.1) (by rw[e1];exact hh),e1]
def Exh(h h':H):Prop:=h.next.nat≤h'.next.nat∧∀c,c.nat<h.next.nat→h'.at c=h.at c
theorem Exh.refl{h:H}:Exh h h:=⟨Nat.le_refl _,fun _ _=>rfl⟩
theorem Exh.trans{h h1 h2:H}(a:Exh h h1)(b:Exh h1 h2):Exh h h2:=⟨Nat.le_trans a.1 b.1,fun c hc=>by rw[b.2 c (Nat.lt_of_lt_of_le hc a.1),a.2 c hc]⟩
theorem Exh.new{h:H}{o:Ob FT}:Exh h (h.new o):=⟨by rw[Be];omega,fun _ hc=>Dd hc⟩
theorem Exh.kp{e:TypeId}{lo:Nat}{hE h h':H}(a:Exh hE h)(hl:hE.next.nat≤lo)(b:Kp e lo h h'):Exh hE h':=
 ⟨Nat.le_trans a.1 b.1,fun c hc=>by rw[b.2 c (Nat.lt_of_lt_of_le hc a.1) (.inl (by omega)),a.2 c hc]⟩
theorem Rd.ext{sz:Nat}{h h':H}{v:AV}{L:List (List AV)}(hr:Rd sz h v L)(hx:Exh h h'):Rd sz h' v L:=hr.frame hx.1 fun c hc _ _ _ _ _=>hx.2 c hc
theorem Cv.ext{e:TypeId}{sz lo:Nat}{h h':H}{v:AV}{L:List (List AV)}(hb:Cv e sz lo h v L)(hx:Exh h h'):Cv e sz lo h' v L:=hb.frame hx.1 fun c hc _ _ _ _ _ _=>hx.2 c hc
theorem Cv.kp{e e':TypeId}{sz lo lo':Nat}{h h':H}{v:AV}{L:List (List AV)}(hb:Cv e sz lo h v L)(hx:Kp e' lo' h h')(he:e≠e'):Cv e sz lo h' v L:=hb.frame hx.1 fun c hc _ t m z w ha=>hx.2 c hc (.inr ⟨t,m,z,e,w,ha,he⟩)
theorem Bgu{e:TypeId}{sz lo:Nat}{ei:TI}{h:H}{v x:AV}{L:List (List AV)}{ds:List AV}(hb:Cv e sz lo h v L)(hx:Bv h sz x=some (1,ds))(hd:ds.length=sz)(hsz:ei.size=sz)(hf:Cf ei (L.length+1)=true)(hlo:lo≤h.next.nat):
 ∃v' h',Dc (some false) v x h e ei=some (v',h')∧Cv e sz lo h' v' (L++[ds])∧Kp e lo h h':=by
 obtain⟨v',h',a,b,c,d⟩:=Bgs hb hx hd hsz hf hlo
 refine⟨v',h',a,b,c,fun p hp hh=>d p hp fun o n z b' ev=>?_⟩
 rcases hb with⟨rfl,_⟩|⟨q,t,m,z',w,rfl,h1,h2,h3,_⟩
 · cases ev
 · cases ev
   rcases hh with hh|⟨t',m',z'',e',w',hr,hne⟩
   · omega
   · rw[h3] at hr;cases hr;exact hne rfl
theorem Ags{e:TypeId}{sz lo:Nat}{ei:TI}{h:H}{v:AV}{L:List (List AV)}{ds:List AV}{t:Tm}(hb:Cv e sz lo h v L)(hd:ds.length=sz)(hsz:ei.size=sz)(hf:Cf ei (L.length+1)=true)(hlo:lo≤h.next.nat){k:KV}(hk:∀v' h',Cv e sz lo h' v' (L++[ds])→Kp e lo h h'→k v' h'):
 oK (Dc (some false) v (.slice h.next 0 1 sz true) (h.new (.row (Ai ds 0 t) sz 0 e true)) e ei) k:=by
 obtain⟨v',h',a,b,c⟩:=Bgu (hb.ext Exh.new) (Afo hd) hd hsz hf (Nat.le_trans hlo (by rw[Be];omega))
 rw[a,Ae]
 exact hk _ _ b (Kp.new.trans c)
end Go.Den
noncomputable section
namespace Go.Den
open Go.RowKit
set_option maxRecDepth 100000
def Pa(t:TypeId):TI:=Option.rec ei8 (fun t=>t) (env.ty t)
theorem We{ei:TI}{n:Nat}(h1:Ah (Nat.beq (len ei.zero) ei.size) (Nat.ble 1 ei.size)=true)(hb:Nat.ble ei.bytes 128=true)(hn:n≤1099511627776):Cf ei n=true:=by
 have hb:=Nat.le_of_ble_eq_true hb
 have e:Cf ei n=Ah (Ah (Nat.beq (len ei.zero) ei.size) (Nat.ble 1 ei.size)) (Ah (Nat.ble n 1099511627776) (Nat.ble (Nat.mul n ei.bytes) 140737488355328)):=rfl
 have h3:n*ei.bytes≤1099511627776*128:=Nat.mul_le_mul hn hb
 rw[e,h1,Nat.ble_eq_true_of_le hn,Nat.ble_eq_true_of_le (show Nat.mul n ei.bytes≤140737488355328 from h3)];rfl
def Z69:Tm:=Ai [.int .u8 (.ofNat 0),.int .i64 (.ofNat 0),.int .i64 (.ofNat 0)] 0 .e
theorem Bgh(a b c:AV)(h:H):Ao env 171 (fun e ei=>Ak 1 [(0,.agg [a,b,c])] h e ei)=some (.slice h.next 0 1 3 true,h.new (.row (Ai [a,b,c] 0 Z69) 3 0 174 true)):=by kernel_rfl
theorem Bgx(x y:AV)(h:H):Aq env .append [171,171] [x,y] h=Dc (some false) x y h 174 (Pa 174):=by kernel_rfl
theorem Aux(a b c:Int)(h:H):Bp env (env.ty 174) [(0,.int .u8 a),(1,.int .i64 b),(2,.int .i64 c)] h=some (.agg [.int .u8 a,.int .i64 b,.int .i64 c],h):=by kernel_rfl
theorem Biv:(Pa 174).size=3:=by kernel_rfl
theorem A5r{n:Nat}(hn:n≤1099511627776):Cf (Pa 174) n=true:=We (by kernel_rfl) (by kernel_rfl) hn
theorem Ao9{lo:Nat}{h:H}{v:AV}{L:List (List AV)}{a b c:AV}(hb:Cv 174 3 lo h v L)(hl:L.length+1≤1099511627776)(hlo:lo≤h.next.nat){k:KV}(hk:∀v' h',Cv 174 3 lo h' v' (L++[[a,b,c]])→Kp 174 lo h h'→k v' h'):
 oK (Ao env 171 (fun e ei=>Ak 1 [(0,.agg [a,b,c])] h e ei)) fun x h'=>oK (Aq env .append [171,171] [v,x] h') k:=by
 rw[Bgh,Ae,Bgx]
 exact Ags hb rfl Biv (A5r hl) hlo hk
def rn(x:UInt8)(i j:Nat):List AV:=[ub x,.int .i64 (.ofNat i),.int .i64 (.ofNat j)]
def Rns(L:List (List AV))(B:List UInt8):Prop:=L.length=B.length∧∀i (hi:i<B.length) (hi':i<L.length),∃f t:Nat,f≤1000001∧t≤1000001∧L[i]=rn B[i] f t
def Rs(h:H)(v:AV)(B:List UInt8):Prop:=∃L,Rd 3 h v L∧Rns L B
theorem Rs.ext{h h':H}{v:AV}{B:List UInt8}(hr:Rs h v B)(hx:Exh h h'):Rs h' v B:=by
 obtain⟨L,a,b⟩:=hr;exact⟨L,a.ext hx,b⟩
def bt(B:List UInt8)(i:Nat):UInt8:=B.getD i 0
theorem Aa3{B:List UInt8}{i:Nat}(h:i<B.length):bt B i=B[i]:=by unfold bt;rw[List.getD_eq_getElem?_getD,List.getElem?_eq_getElem h];rfl
theorem Si{B:List UInt8}{i:Nat}(h:B.length≤i):bt B i=0:=by unfold bt;rw[List.getD_eq_getElem?_getD,List.getElem?_eq_none h];rfl
theorem Rs.at0{h:H}{v:AV}{B:List UInt8}(hr:Rs h v B){i:Nat}(hi:i<B.length){K:AV→Prop}(hk:K (ub B[i])):Bz 3 i v fun a=>Am 0 a fun a=>ld1 a h K:=by
 obtain⟨L,r,hL⟩:=hr
 have e':i<L.length:=by rw[hL.1];exact hi
 obtain⟨f,t,_,_,hc⟩:=hL.2 i hi e'
 refine r.fld (j:=0) e' (by rw[hc];exact Nat.zero_lt_succ _) ?_
 simp only[hc,rn,List.getElem_cons_zero]
 exact hk
theorem Rs.len{h:H}{v:AV}{B:List UInt8}(hr:Rs h v B){K:Nat→Prop}:Ef v K=K B.length:=by
 obtain⟨L,r,hL⟩:=hr
 rw[r.len,hL.1]
theorem Mn{h:H}{v:AV}{B:List UInt8}{i:Nat}{k:KV}(hr:Rs h v B)(hk:k (ub (bt B i)) h):W1 (.func 129) [v,.int .i64 (Int.ofNat i)] h k:=by
 refine Baf (n:=1) Bl (Bkk ?_)
 unfold Aeu
 refine Rt (b:=decide (B.length≤i)) (fun k' hk'=>?_) ?_
 · rw[hr.len,ile];exact hk'
 rw[show Cs (Int.ofNat i) (Int.ofNat 0)=false by rw[ilt];simp,Bool.false_or]
 refine Az (fun e=>?_) (fun e=>?_)
 · have e:=of_decide_eq_true e
   rw[Si e] at hk;exact hk
 · have e:=of_decide_eq_false e
   rw[Ap]
   refine hr.at0 (by omega) ?_
   unfold ub
   rw[Au]
   rw[Aa3 (by omega)] at hk;exact hk
def Dw(x:UInt8):Bool:=(decide (97≤x.toNat)&&decide (x.toNat≤122))||(decide (65≤x.toNat)&&decide (x.toNat≤90))||decide (x.toNat=95)
def isDigit(x:UInt8):Bool:=decide (48≤x.toNat)&&decide (x.toNat≤57)
def Azg(x:UInt8):Bool:=decide (x.toNat=32)||decide (x.toNat=9)||(decide (11≤x.toNat)&&decide (x.toNat≤13))
theorem A8t(x:UInt8):Pure PP G h0 132 [ub x] (.bool (Dw x)):=by
 refine Bac (n:=1) Bl (Bkh ?_)
 unfold Aeq
 refine Sk ?_
 refine Rt (b:=(decide (65≤x.toNat)&&decide (x.toNat≤90))) (fun k' hk'=>?_) ?_
 · refine Sk ?_;rw[ile,ile];exact hk'
 refine Jx ?_
 rw[ile,ile,Ru];rfl
theorem A0k(x:UInt8):Pure PP G h0 133 [ub x] (.bool (isDigit x)):=by
 refine Bab (n:=1) Bl (Bkg ?_)
 unfold Aep
 refine Sk ?_
 rw[ile,ile];rfl
theorem c78(x:UInt8):Pure PP G h0 78 [ub x] (.bool (Azg x)):=by
 refine w78 (n:=1) Bl (g78 ?_)
 unfold Amw
 refine Jx ?_
 refine Rt (b:=(decide (11≤x.toNat)&&decide (x.toNat≤13))) (fun k' hk'=>?_) ?_
 · refine Sk ?_;rw[ile,ile];exact hk'
 rw[Ru,Ru];rfl
theorem Bfz(v:AV)(h:H):Gh env h 115 9 v=Yi env 115 v h:=by kernel_rfl
theorem cvb(b:P)(o n:Nat)(h:H):Rh env 115 b o n h=(Option.rec none (fun cs=>Nb h (Et cs)) (h.read b o n):Option (AV×H)):=by kernel_rfl
theorem Ab5(h:H)(l:List UInt8):Nb h (Et (ubs l))=some (S l,h):=by
 rw[Vg]
 show some (strOf (l.map (·.toNat)),h)=_
 rw[Aj8]
theorem Zh{h:H}{q:P}{t:Tm}{m z n:Nat}{e:TypeId}{w:Bool}(ha:h.at q=.row t m z e w)(hn:n≤m):h.read q 0 n=some (Cq t n 0):=by
 unfold Hp.read Hp.Hu
 rw[ha]
 show(Pn 0 n none some t m:Option (List AV))=_
 unfold Pn
 rw[show Nat.ble (Nat.add 0 n) m=true from Nat.ble_eq_true_of_le (by show 0+n≤m;omega)]
theorem Ajg{h:H}{q:P}{t:Tm}{m z:Nat}{w:Bool}{l:List UInt8}{ti:Bool}(ha:h.at q=.row t m z TB w)(hm:l.length≤m)(hc:Dy t l):Gh env h 115 9 (.slice q 0 l.length 1 ti)=some (S l,h):=by
 rw[Bfz]
 show Rh env 115 q 0 l.length h=_
 rw[cvb,Zh ha hm,hc.get]
 exact Ab5 h l
def eb(l:List UInt8):List (List AV):=l.map fun x=>[ub x]
theorem Lw(l:List UInt8):(eb l).length=l.length:=by unfold eb;simp
theorem Azx(l:List UInt8)(x:UInt8):eb (l++[x])=eb l++[[ub x]]:=by unfold eb;simp
theorem Agd{l:List UInt8}{i:Nat}(h:i<l.length)(h':i<(eb l).length):(eb l)[i]=[ub l[i]]:=List.getElem_map (fun x=>[ub x]) (h:=h')
theorem Az4{lo:Nat}{h:H}{v:AV}{l:List UInt8}(hb:Cv TB 1 lo h v (eb l)):Gh env h 115 9 v=some (S l,h):=by
 rcases hb with⟨rfl,e⟩|⟨q,t,m,z,w,rfl,h1,h2,h3,h4,h5,h6⟩
 · have:l=[]:=by cases l with
    |nil=>rfl
    |cons x l=>exact absurd e (by unfold eb;simp)
   subst this
   rw[Bfz];rfl
 · rw[Lw] at h4
   rw[Lw]
   refine Ajg h3 (by omega) fun i hi=>?_
   have:=(h6 i (by rw[Lw];exact hi)).2 0 (by rw[Agd hi];exact Nat.one_pos)
   simp only[Agd hi,List.getElem_cons_zero] at this
   rw[←this]
   congr 1;omega
theorem Awr{lo:Nat}{h:H}{v:AV}{l:List UInt8}{x:UInt8}(hb:Cv TB 1 lo h v (eb l))(hl:l.length+1≤1099511627776)(hlo:lo≤h.next.nat){k:KV}(hk:∀v' h',Cv TB 1 lo h' v' (eb (l++[x]))→Kp TB lo h h'→k v' h'):
 oK (Ao env 115 (fun e ei=>Ak 1 [(0,.int .u8 (Int.ofNat x.toNat))] h e ei)) fun x h'=>oK (Aq env .append [115,115] [v,x] h') k:=by
 rw[Bgk,Ae,A2a]
 exact Ags (ds:=[ub x]) hb rfl (by rfl) (Aiy (by rw[Lw];exact hl)) hlo (by rw[←Azx];exact hk)
theorem A1w{hE:H}{B:List UInt8}{v0:AV}{k:KV}(hl:B.length≤1000000)(hr:Rs hE v0 B)(hk:∀h',Exh hE h'→k (S B) h'):∀(n i:Nat){h:H}{v:AV},B.length-i<n→i≤B.length→Exh hE h→Cv TB 1 hE.next.nat h v (eb (B.take i))→(r81 W1 k n).a1 v0 v (Int.ofNat i) h
 |0,_,_,_,hn,_,_,_=>absurd hn (Nat.not_lt_zero _)
 |n+1,i,h,v,hn,hi,hx,hb=>by
  refine Bdh ?_
  unfold Amo
  have hr':=hr.ext hx
  rw[hr'.len,ilt]
  refine Az (fun e=>?_) (fun e=>?_)
  · have e:i<B.length:=of_decide_eq_true e
    rw[Ap]
    refine hr'.at0 e ?_
    unfold ub
    rw[Au]
    refine Awr hb (by rw[List.length_take];omega) hx.1 fun v' h' hb' hk'=>?_
    rw[De,Cg (by omega),As]
    refine A1w hl hr hk n (i+1) (by omega) e (hx.kp (Nat.le_refl _) hk') ?_
    rw[List.take_succ_eq_append_getElem e];exact hb'
  · have e:i=B.length:=by have:=of_decide_eq_false e;omega
    subst e
    rw[List.take_length] at hb
    rw[Az4 hb,Ae]
    exact hk _ hx
theorem c81{B:List UInt8}{v0:AV}{h:H}{k:KV}(hl:B.length≤1000000)(hr:Rs h v0 B)(hk:∀h',Exh h h'→k (S B) h'):W1 (.func 81) [v0] h k:=by
 refine w81 (n:=B.length+2) Bl (g81 ?_)
 unfold Amp
 exact A1w hl hr hk _ 0 (by omega) (Nat.zero_le _) Exh.refl (.inl ⟨rfl,rfl⟩)
def Ug(B:List UInt8)(i:Nat):Int:=
 if decide (bt B i=34)||decide (bt B i=39) then Int.ofNat 0
 else if(decide (bt B i=117)&&decide (bt B (i+1)=56))&&decide (bt B (i+2)=34) then Int.ofNat 2
 else if((decide (bt B i=76)||decide (bt B i=117))||decide (bt B i=85))&&(decide (bt B (i+1)=34)||decide (bt B (i+1)=39)) then Int.ofNat 1
 else Int.negSucc 0
theorem Abp(x:UInt8)(n:Nat)(y:UInt8)(hy:y.toNat=n):Ba (Int.ofNat x.toNat) (Int.ofNat n)=decide (x=y):=by
 subst hy;exact Oy x y
theorem Bl7{h:H}{v:AV}{B:List UInt8}{i:Nat}{k:KV}(hr:Rs h v B)(hi:i≤1000000)(hk:k (.int .i64 (Ug B i)) h):W1 (.func 130) [v,.int .i64 (Int.ofNat i)] h k:=by
 refine Bae (n:=1) Bl (Bkj ?_)
 unfold Aet
 refine Mn hr ?_
 unfold ub
 rw[Au]
 refine Jx ?_
 rw[Abp _ 34 34 rfl,Abp _ 39 39 rfl]
 unfold Ug at hk
 refine Az (fun e=>?_) (fun e=>?_)
 · rw[if_pos e] at hk;exact hk
 rw[if_neg (by rw[e];exact Bool.false_ne_true)] at hk
 refine Lb (b:=decide (bt B (i+1)=56)) (fun k' hk'=>?_) ?_
 · rw[De,Cg (by omega),As]
   refine Mn hr ?_
   unfold ub
   rw[Au,Abp _ 56 56 rfl];exact hk'
 refine Lb (b:=decide (bt B (i+2)=34)) (fun k' hk'=>?_) ?_
 · rw[De,Cg (by omega),As]
   refine Mn hr ?_
   unfold ub
   rw[Au,Abp _ 34 34 rfl];exact hk'
 rw[Abp _ 117 117 rfl]
 refine Az (fun e=>?_) (fun e=>?_)
 · rw[if_pos e] at hk;exact hk
 rw[if_neg (by rw[e];exact Bool.false_ne_true)] at hk
 refine Jx ?_
 refine Jx ?_
 refine Lb (b:=(decide (bt B (i+1)=34)||decide (bt B (i+1)=39))) (fun k' hk'=>?_) ?_
 · rw[De,Cg (by omega),As]
   refine Mn hr ?_
   unfold ub
   rw[Au]
   refine Rt (b:=decide (bt B (i+1)=39)) (fun k'' hk''=>?_) ?_
   · rw[As]
     refine Mn hr ?_
     unfold ub
     rw[Au,Abp _ 39 39 rfl];exact hk''
   rw[Abp _ 34 34 rfl];exact hk'
 rw[Abp _ 76 76 rfl,Abp _ 85 85 rfl]
 refine Az (fun e=>?_) (fun e=>?_)
 · rw[if_pos e] at hk;exact hk
 · rw[if_neg (by rw[e];exact Bool.false_ne_true)] at hk;exact hk
end Go.Den
noncomputable section
namespace Go.Den
open Go.RowKit
set_option maxRecDepth 100000
def Cp:List (List UInt8):=[[37,58,37,58],[46,46,46],[60,60,61],[62,62,61],[45,62],[43,43],[45,45],[60,60],[62,62],[60,61],[62,61],[61,61],[33,61],[38,38],[124,124],[42,61],[47,61],[37,61],[43,61],[45,61],[38,61],[94,61],[124,61],[35,35],[60,58],[58,62],[60,37],[37,62],[37,58],
 [91],[93],[40],[41],[123],[125],[46],[38],[42],[43],[45],[126],[33],[47],[37],[60],[62],[94],[124],[63],[58],[59],[61],[44],[35]]
def T62:Tm:=Option.rec .e (fun t=>t) (Xd (Vw 1) 54 [(0,(.str 4 975518245)),(1,(.str 3 3026478)),(2,(.str 3 4013116)),(3,(.str 3 4013630)),(4,(.str 2 15917)),(5,(.str 2 11051)),(6,(.str 2 11565)),(7,(.str 2 15420)),(8,(.str 2 15934)),(9,(.str 2 15676)),(10,(.str 2 15678)),(11,(.str 2 15677)),(12,(.str 2 15649)),(13,(.str 2 9766)),(14,(.str 2 31868)),(15,(.str 2 15658)),(16,(.str 2 15663)),(17,(.str 2 15653)),(18,(.str 2 15659)),(19,(.str 2 15661)),(20,(.str 2 15654)),(21,(.str 2 15710)),(22,(.str 2 15740)),(23,(.str 2 8995)),(24,(.str 2 14908)),(25,(.str 2 15930)),(26,(.str 2 9532)),(27,(.str 2 15909)),(28,(.str 2 14885)),(29,(.str 1 91)),(30,(.str 1 93)),(31,(.str 1 40)),(32,(.str 1 41)),(33,(.str 1 123)),(34,(.str 1 125)),(35,(.str 1 46)),(36,(.str 1 38)),(37,(.str 1 42)),(38,(.str 1 43)),(39,(.str 1 45)),(40,(.str 1 126)),(41,(.str 1 33)),(42,(.str 1 47)),(43,(.str 1 37)),(44,(.str 1 60)),(45,(.str 1 62)),(46,(.str 1 94)),(47,(.str 1 124)),(48,(.str 1 63)),(49,(.str 1 58)),(50,(.str 1 59)),(51,(.str 1 61)),(52,(.str 1 44)),(53,(.str 1 35))] (Ai (Ju [.str 0 0] 54) 0 .e))
theorem Aq1:Cq T62 54 0=Cp.map fun p=>.str (len p) (enc p):=by kernel_rfl
theorem Blx{h:H}{k:KV}(hk:k (.slice h.next 0 54 1 true) (h.new (.row T62 54 0 9 true))):W1 (.func 182) [] h k:=by
 refine A9x (n:=1) Bl (Bj2 ?_)
 unfold Adx
 rw[show Ao env 44 (fun e ei=>Ak 54 [(0,(.str 4 975518245)),(1,(.str 3 3026478)),(2,(.str 3 4013116)),(3,(.str 3 4013630)),(4,(.str 2 15917)),(5,(.str 2 11051)),(6,(.str 2 11565)),(7,(.str 2 15420)),(8,(.str 2 15934)),(9,(.str 2 15676)),(10,(.str 2 15678)),(11,(.str 2 15677)),(12,(.str 2 15649)),(13,(.str 2 9766)),(14,(.str 2 31868)),(15,(.str 2 15658)),(16,(.str 2 15663)),(17,(.str 2 15653)),(18,(.str 2 15659)),(19,(.str 2 15661)),(20,(.str 2 15654)),(21,(.str 2 15710)),(22,(.str 2 15740)),(23,(.str 2 8995)),(24,(.str 2 14908)),(25,(.str 2 15930)),(26,(.str 2 9532)),(27,(.str 2 15909)),(28,(.str 2 14885)),(29,(.str 1 91)),(30,(.str 1 93)),(31,(.str 1 40)),(32,(.str 1 41)),(33,(.str 1 123)),(34,(.str 1 125)),(35,(.str 1 46)),(36,(.str 1 38)),(37,(.str 1 42)),(38,(.str 1 43)),(39,(.str 1 45)),(40,(.str 1 126)),(41,(.str 1 33)),(42,(.str 1 47)),(43,(.str 1 37)),(44,(.str 1 60)),(45,(.str 1 62)),(46,(.str 1 94)),(47,(.str 1 124)),(48,(.str 1 63)),(49,(.str 1 58)),(50,(.str 1 59)),(51,(.str 1 61)),(52,(.str 1 44)),(53,(.str 1 35))] h e ei)
  =some (.slice h.next 0 54 1 true,h.new (.row T62 54 0 9 true)) by kernel_rfl,Ae]
 exact hk
def es(l:List (List UInt8)):List (List AV):=l.map fun x=>[S x]
theorem Aav(l:List (List UInt8)):(es l).length=l.length:=by unfold es;simp
theorem Alh{l:List (List UInt8)}{i:Nat}(h:i<l.length)(h':i<(es l).length):(es l)[i]=[S l[i]]:=List.getElem_map (fun x=>[S x]) (h:=h')
theorem Bi6(h:H):Rd 1 (h.new (.row T62 54 0 9 true)) (.slice h.next 0 54 1 true) (es Cp):=by
 refine .row h.next 0 T62 54 0 9 true true rfl (by rw[Be];omega) (Ay _ _) (by rw[Aav];decide) fun i hi=>?_
 have hi':i<Cp.length:=by rw[Aav] at hi;exact hi
 rw[Alh hi']
 refine⟨rfl,fun j hj=>?_⟩
 have hj:j=0:=by simp at hj;exact hj
 subst hj
 have e:Cq T62 54 0=Cp.map fun p=>S p:=by
  rw[Aq1]
  refine List.map_congr_left fun p _=>?_
  rw[Di]
 have h1:(Cq T62 54 0)[i]? =some (S Cp[i]):=by
  rw[e,List.getElem?_map,List.getElem?_eq_getElem hi'];rfl
 rw[Gt,List.getElem?_map,List.getElem?_range (show i<54 from hi')] at h1
 have h2:=Option.some.inj h1
 show Bh T62 (0+i*1+0)=_
 rw[show 0+i*1+0=0+i by omega];exact h2
theorem Rd.str{h:H}{v:AV}{l:List (List UInt8)}(hr:Rd 1 h v (es l)){i:Nat}(hi:i<l.length){K:AV→Prop}(hk:K (S l[i])):Bz 1 i v fun a=>Go.Den.ld1 a h K:=by
 have hi':i<(es l).length:=by rw[Aav];exact hi
 have hc:=Alh hi hi'
 refine hr.elem hi' fun q o _ _ ha=>?_
 have:=ha.ld1 (j:=0) (K:=K) (by rw[hc];exact Nat.one_pos) (by simp only[hc,List.getElem_cons_zero];exact hk)
 exact this
def pre(B:List UInt8):Nat→List UInt8→Bool
 |_,[]=>true
 |i,x::p=>decide (bt B i=x)&&pre B (i+1) p
def Sx(B:List UInt8)(i:Nat):List (List UInt8)→Nat
 |[]=>0
 |p::ps=>if pre B i p=true then p.length else Sx B i ps
theorem Bc1:∀p∈Cp,p.length≤4:=by decide
theorem Av7 {h : H} {v w : AV} {B : List UInt8} {i : Nat} {k : KV} (hr : Rs h v B) (hp : Rd 1 h w (es Cp)) (hi : i ≤ 1000000) : ∀ (n : Nat),
    (∀ q, q ≤ 54 → 12 * (54 - q) + 2 ≤ n → k (.int .i64 (Int.ofNat (Sx B i (Cp.drop q)))) h → (Zi W1 k n).a1 v (Int.ofNat i) w (Int.ofNat q) h) ∧
    (∀ q (hq : q < Cp.length) j, j ≤ Cp[q].length → 12 * (54 - q) + 1 - j ≤ n → k (.int .i64 (Int.ofNat (if pre B (i + j) (Cp[q].drop j) = true then Cp[q].length else Sx B i (Cp.drop (q + 1))))) h → (Zi W1 k n).a2 v (Int.ofNat i) w (Int.ofNat q) (Int.ofNat j) h)
  | 0 => ⟨fun q _ hn => absurd hn (by omega), fun q hq j hj hn => by
      have := Bc1 _ (List.getElem_mem hq)
      have hq' : q < 54 := hq
      omega⟩
  | n + 1 => by
    have ih := Av7 hr hp hi (k := k) n
    refine ⟨fun q hq hn hk => ?_, fun q hq j hj hn hk => ?_⟩
    · refine A45 ?_
      unfold Ael
      rw [hp.len, Aav, ilt]
      refine Az (fun e => ?_) (fun e => ?_)
      · have e : q < Cp.length := of_decide_eq_true e
        refine ih.2 q e 0 (Nat.zero_le _) (by omega) ?_
        rw [List.drop_eq_getElem_cons e] at hk
        exact hk
      · have e : ¬ q < Cp.length := of_decide_eq_false e
        rw [List.drop_eq_nil_of_le (by omega)] at hk; exact hk
    · have hq' : q ≤ 53 := Nat.le_of_lt_succ hq
      have hl4 := Bc1 _ (List.getElem_mem hq)
      refine A44 ?_
      unfold Aek
      rw [Ap]
      refine hp.str hq ?_
      rw [Cl, ilt]
      refine Gi (fun e => ?_) (fun e => ?_)
      · have e : j < Cp[q].length := of_decide_eq_true e
        rw [De, Cg (by omega), As, Ap]
        have hq2 : q < (es Cp).length := by rw [Aav]; exact hq
        have hc := Alh hq hq2
        refine hp.elem hq2 fun b o _ _ ha => ?_
        have ld : ∀ {K : AV → Prop}, K (S (Cp[q]'hq)) → ld1 (.ptr b o) h K := fun {K} hK => by
          have := ha.ld1 (j := 0) (K := K) (by rw [hc]; exact Nat.one_pos) (by simp only [hc, List.getElem_cons_zero]; exact hK)
          exact this
        refine ld ?_
        rw [Cl, Ap]
        refine Cn e ?_
        refine Mn hr ?_
        unfold ub
        rw [Au]
        refine ld ?_
        rw [Cl]
        have heq : ∀ {A : Prop}, A → eqC (S (Cp[q]'hq)) (S (Cp[q]'hq)) A := fun {A} hA => by
          show Bool.rec Aj A (Pb 4 (S (Cp[q]'hq)) (S (Cp[q]'hq)))
          have : Pb 4 (S (Cp[q]'hq)) (S (Cp[q]'hq)) = true := by
            show Ah (Nat.beq _ _) (Nat.beq _ _) = true
            rw [Nat.beq_refl, Nat.beq_refl]; rfl
          rw [this]; exact hA
        refine heq ?_
        have hd : (Cp[q]'hq).drop j = (Cp[q]'hq)[j] :: (Cp[q]'hq).drop (j + 1) := List.drop_eq_getElem_cons e
        rw [hd] at hk
        rw [Oy]
        refine Az (fun e2 => ?_) (fun e2 => ?_)
        · rw [De, Cg (by omega), As]
          refine ih.2 q hq (j + 1) e (by omega) ?_
          show k (.int .i64 (Int.ofNat (if pre B (i + j + 1) _ = true then _ else _))) h
          have : pre B (i + j) ((Cp[q]'hq)[j] :: (Cp[q]'hq).drop (j + 1)) = pre B (i + j + 1) ((Cp[q]'hq).drop (j + 1)) := by
            show (decide (bt B (i + j) = (Cp[q]'hq)[j]) && _) = _
            rw [e2, Bool.true_and]
          rw [this] at hk; exact hk
        · refine hp.str hq ?_
          rw [Cl, Ru, decide_eq_false (by omega)]
          refine Bo rfl ?_
          rw [De, Cg (by omega), As]
          refine ih.1 (q + 1) hq (by omega) ?_
          have : pre B (i + j) ((Cp[q]'hq)[j] :: (Cp[q]'hq).drop (j + 1)) = false := by
            show (decide (bt B (i + j) = (Cp[q]'hq)[j]) && _) = _
            rw [e2, Bool.false_and]
          rw [this, if_neg Bool.false_ne_true] at hk; exact hk
      · have e : j = (Cp[q]'hq).length := by have := of_decide_eq_false e; omega
        refine Bo rfl ?_
        rw [Ap]
        refine hp.str hq ?_
        rw [Cl, Ru, decide_eq_true e]
        refine Cj rfl ?_
        rw [e, List.drop_length] at hk
        rw [e]
        exact hk
theorem Bl6{h:H}{v:AV}{B:List UInt8}{i:Nat}{k:KV}(hr:Rs h v B)(hi:i≤1000000)(hk:∀h',Exh h h'→k (.int .i64 (Int.ofNat (Sx B i Cp))) h'):W1 (.func 135) [v,.int .i64 (Int.ofNat i)] h k:=by
 refine A99 (n:=1000) Bl (Bke ?_)
 unfold Aem
 refine Blx ?_
 exact(Av7 (hr.ext Exh.new) (Bi6 h) hi 999).1 0 (by omega) (by omega) (hk _ Exh.new)
end Go.Den
noncomputable section
namespace Go.Den
open Go.RowKit
set_option maxRecDepth 100000
theorem A1n(l c:Nat)(a b:Int)(h:H):Bp env (env.ty 38) [(0,.str l c),(1,.int .i64 a),(2,.int .i64 b)] h=some (.agg [.str l c,.int .i64 a,.int .i64 b],h):=by kernel_rfl
theorem Bea(a:Int)(l c:Nat)(b:Bool)(x y z:AV)(h:H):Bp env (env.ty 43) [(0,.int .i64 a),(1,.str l c),(2,.bool b),(3,.agg [x,y,z])] h=some (.agg [.int .i64 a,.str l c,.bool b,x,y,z,.bool false,.Ad],h):=by kernel_rfl
theorem Bd8(a:Int)(h:H):Bp env (env.ty 114) [(1,.int .i64 a)] h=some (.agg [.Ad,.int .i64 a,.int .i64 (.ofNat 0),.bool false],h):=by kernel_rfl
def Z47:Tm:=Ai [.int .i64 (.ofNat 0),.str 0 0,.bool false,.str 0 0,.int .i64 (.ofNat 0),.int .i64 (.ofNat 0),.bool false,.Ad] 0 .e
theorem Bgj(a b c d e f g i:AV)(h:H):Ao env 22 (fun t ei=>Ak 1 [(0,.agg [a,b,c,d,e,f,g,i])] h t ei)=some (.slice h.next 0 1 8 true,h.new (.row (Ai [a,b,c,d,e,f,g,i] 0 Z47) 8 0 43 true)):=by kernel_rfl
theorem Bgz(x y:AV)(h:H):Aq env .append [22,22] [x,y] h=Dc (some false) x y h 43 (Pa 43):=by kernel_rfl
theorem Bix:(Pa 43).size=8:=by kernel_rfl
theorem A5t{n:Nat}(hn:n≤1099511627776):Cf (Pa 43) n=true:=We (by kernel_rfl) (by kernel_rfl) hn
def Z60:Tm:=Ai [.Ad,.int .i64 (.ofNat 0),.int .i64 (.ofNat 0),.bool false] 0 .e
theorem Bgi(a b c d:AV)(h:H):Ao env 110 (fun t ei=>Ak 1 [(0,.agg [a,b,c,d])] h t ei)=some (.slice h.next 0 1 4 true,h.new (.row (Ai [a,b,c,d] 0 Z60) 4 0 114 true)):=by kernel_rfl
theorem Bgy(x y:AV)(h:H):Aq env .append [110,110] [x,y] h=Dc (some false) x y h 114 (Pa 114):=by kernel_rfl
theorem Biw:(Pa 114).size=4:=by kernel_rfl
theorem A5s{n:Nat}(hn:n≤1099511627776):Cf (Pa 114) n=true:=We (by kernel_rfl) (by kernel_rfl) hn
theorem Bf0{q:P}{o n lo hi:Nat}{b:Bool}{h:H}(h1:lo≤hi)(h2:hi≤n):slice3 env h 171 (.slice q o n 3 b) (some (some lo)) (some (some hi)) none=some (.slice q (o+lo*3) (hi-lo) 3 (Ah b (Nat.beq hi n)),h):=by
 have e:slice3 env h 171 (.slice q o n 3 b) (some (some lo)) (some (some hi)) none=Ff h (Bool.rec none (some (.slice q (Nat.add o (Nat.mul lo 3)) (Nat.sub hi lo) 3 (Ah b (Nat.beq hi n)))) (Ah (Ah (Nat.ble lo hi) (Nat.ble hi n)) true)):=by kernel_rfl
 rw[e,Nat.ble_eq_true_of_le h1,Nat.ble_eq_true_of_le h2];rfl
theorem A0w.cut{sz o lo hi:Nat}{t:Nat→AV}{L:List (List AV)}(hr:A0w sz o t L):A0w sz (o+lo*sz) t ((L.drop lo).take (hi-lo)):=by
 intro i hi'
 have h1:lo+i<L.length:=by rw[List.length_take,List.length_drop] at hi';omega
 rw[List.getElem_take,List.getElem_drop]
 refine⟨(hr (lo+i) h1).1,fun j hj=>?_⟩
 have:=(hr (lo+i) h1).2 j hj
 rw[←this]
 congr 1
 rw[Nat.add_mul];omega
theorem Rd.Blh{h:H}{v:AV}{L:List (List AV)}(hr:Rd 3 h v L){lo hi:Nat}(h1:lo≤hi)(h2:hi≤L.length){k:KV}(hk:∀v',Rd 3 h v' ((L.drop lo).take (hi-lo))→k v' h):oK (slice3 env h 171 v (some (some lo)) (some (some hi)) none) k:=by
 obtain⟨q,o,c,m,b,rfl,a1,a2,a3,a4⟩:=hr
 rw[Bf0 h1 h2,Ae]
 have hl:((L.drop lo).take (hi-lo)).length=hi-lo:=by rw[List.length_take,List.length_drop];omega
 exact hk _ ⟨q,_,c,m,_,by rw[hl],a1,a2,by rw[hl];have:hi*3≤L.length*3:=Nat.mul_le_mul_right _ h2;omega,a4.cut⟩
theorem Rs.cut{h:H}{v:AV}{B:List UInt8}(hr:Rs h v B){lo hi:Nat}(h1:lo≤hi)(h2:hi≤B.length){k:KV}(hk:∀v',Rs h v' ((B.drop lo).take (hi-lo))→k v' h):oK (slice3 env h 171 v (some (some lo)) (some (some hi)) none) k:=by
 obtain⟨L,r,hL⟩:=hr
 refine r.Blh h1 (by rw[hL.1];exact h2) fun v' r'=>hk v' ⟨_,r',?_,fun i hi1 hi2=>?_⟩
 · rw[List.length_take,List.length_take,List.length_drop,List.length_drop,hL.1]
 · have h3:lo+i<B.length:=by rw[List.length_take,List.length_drop] at hi1;omega
   have h4:lo+i<L.length:=by rw[hL.1];exact h3
   obtain⟨f,t,a,b,c⟩:=hL.2 (lo+i) h3 h4
   refine⟨f,t,a,b,?_⟩
   rw[List.getElem_take,List.getElem_take,List.getElem_drop,List.getElem_drop];exact c
theorem Ai8{v:AV}{A:Prop}(h:Pb 4 v v=true)(hA:A):eqC v v A:=by
 show Bool.rec Aj A (Pb 4 v v)
 rw[h];exact hA
theorem avI{n:Nat}{k:IntKind}{a:Int}:Pb (n+1) (.int k a) (.int k a)=true:=by
 show Ah (Ais k k) (Ba a a)=true
 rw[Fi,beq_self_eq_true];cases k<;>rfl
theorem avS{n l c:Nat}:Pb (n+1) (.str l c) (.str l c)=true:=by
 show Ah (Nat.beq l l) (Nat.beq c c)=true
 rw[Nat.beq_refl,Nat.beq_refl];rfl
theorem Bmf{n:Nat}{a:P}{i m z:Nat}{t:Bool}:Pb (n+1) (.slice a i m z t) (.slice a i m z t)=true:=by
 show Ah (Ah (P.beq a a) (Nat.beq i i)) (Ah (Ah (Nat.beq m m) (Nat.beq z z)) (Ajr t t))=true
 rw[P.beq_refl,Nat.beq_refl,Nat.beq_refl,Nat.beq_refl];cases t<;>rfl
theorem A15{e:TypeId}{sz lo:Nat}{h:H}{v:AV}{L:List (List AV)}(hb:Cv e sz lo h v L):Pb 4 v v=true:=by
 rcases hb with⟨rfl,_⟩|⟨_,_,_,_,_,rfl,_⟩
 · rfl
 · exact Bmf
theorem Bmg{x y z:AV}(hx:Pb 3 x x=true)(hy:Pb 3 y y=true)(hz:Pb 3 z z=true):Pb 4 (.agg [x,y,z]) (.agg [x,y,z])=true:=by
 have e:Pb 4 (.agg [x,y,z]) (.agg [x,y,z])=allEq (Pb 3) [x,y,z] [x,y,z]:=rfl
 rw[e]
 simp only[allEq,hx,hy,hz]
 rfl
structure Tok where
 kind:Nat
 text:List UInt8
 space:Bool
 f:Nat
 t:Nat
def Tok.cells(x:Tok):List AV:=[.int .i64 (.ofNat x.kind),S x.text,.bool x.space,.str 1 102,.int .i64 (.ofNat x.f),.int .i64 (.ofNat x.t),.bool false,.Ad]
theorem A1m{a b c:AV}{l:List AV}{K:AV→Prop}:ext 2 (.tuple (a::b::c::l)) K=K c:=rfl
end Go.Den
