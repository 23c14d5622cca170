/-
  A part of the proof: rows of elements of many cells, that are read and appended to.
-/
import Derived.Test.YtpjkiikmjddpiaaGreatDoorByt1
namespace Go.Den
open Go.RowKit
set_option maxRecDepth 100000
theorem ilt(a b:Nat):iblt (Int.ofNat a) (Int.ofNat b)=decide (a<b):=by
  rw[iblt_eq];exact decide_eq_decide.2 Int.ofNat_lt
theorem ile(a b:Nat):ible (Int.ofNat a) (Int.ofNat b)=decide (a≤b):=by
  rw[ible_eq];exact decide_eq_decide.2 Int.ofNat_le
theorem ieqN(a b:Nat):ibeq (Int.ofNat a) (Int.ofNat b)=decide (a=b):=by
  rw[ibeq_eq];exact decide_eq_decide.2 ⟨fun e=>Int.ofNat.inj e,fun e=>by rw[e]⟩
theorem ieqB(a b:UInt8):ibeq (Int.ofNat a.toNat) (Int.ofNat b.toNat)=decide (a=b):=by
  rw[ieqN];exact decide_eq_decide.2 ⟨fun e=>UInt8.toNat_inj.1 e,fun e=>by rw[e]⟩
theorem isubN{a b:Nat}(h:b≤a):isub (Int.ofNat a) (Int.ofNat b)=Int.ofNat (a-b):=by
  rw[isub_eq];exact(Int.ofNat_sub h).symm
theorem iaddN(a b:Nat):iadd (Int.ofNat a) (Int.ofNat b)=Int.ofNat (a+b):=by rw[iadd_eq];rfl
/-- so many cells to an element -/
def RowL(sz o:Nat)(t:Tm)(L:List (List AV)):Prop:=∀i (hi:i<L.length),L[i].length=sz∧∀j (hj:j<L[i].length),tget t (o+i*sz+j)=L[i][j]
/-- an address, and the cells there -/
def CellF(h:H)(q:P)(c:Nat→AV)(m:Nat):Prop:=(∃t z e w,h.at q=.row t m z e w∧c=tget t)∨h.at q=.ext c m
theorem CellF.frame{h h':H}{q:P}{c:Nat→AV}{m:Nat}(f:CellF h q c m)(e:h'.at q=h.at q):CellF h' q c m:=by unfold CellF;rw[e];exact f
def AtP(h:H)(q:P)(o:Nat)(cs:List AV):Prop:=∃c m,CellF h q c m∧o+cs.length≤m∧∀j (hj:j<cs.length),c (o+j)=cs[j]
theorem AtP.row{h:H}{q:P}{o:Nat}{cs:List AV}(t:Tm)(m z:Nat)(e:TypeId)(w:Bool)(h1:h.at q=.row t m z e w)(h2:o+cs.length≤m)(h3:∀j (hj:j<cs.length),tget t (o+j)=cs[j]):AtP h q o cs:=⟨tget t,m,.inl ⟨t,z,e,w,h1,rfl⟩,h2,h3⟩
def RowF(sz o:Nat)(c:Nat→AV)(L:List (List AV)):Prop:=∀i (hi:i<L.length),L[i].length=sz∧∀j (hj:j<L[i].length),c (o+i*sz+j)=L[i][j]
/-- a slice that is read -/
def Rd(sz:Nat)(h:H)(v:AV)(L:List (List AV)):Prop:=∃q o c m b,v=.slice q o L.length sz b∧q.nat<h.next.nat∧CellF h q c m∧o+L.length*sz≤m∧RowF sz o c L
theorem Rd.row{sz:Nat}{h:H}{v:AV}{L:List (List AV)}(q:P)(o:Nat)(t:Tm)(m z:Nat)(e:TypeId)(w b:Bool)(h0:v=.slice q o L.length sz b)(h1:q.nat<h.next.nat)(h2:h.at q=.row t m z e w)(h3:o+L.length*sz≤m)(h4:RowL sz o t L):Rd sz h v L:=⟨q,o,tget t,m,b,h0,h1,.inl ⟨t,z,e,w,h2,rfl⟩,h3,h4⟩
/-- a slice that is appended to -/
def BufN(e:TypeId)(sz lo:Nat)(h:H)(v:AV)(L:List (List AV)):Prop:=(v=.nils∧L=[])∨∃q t m z w,v=.slice q 0 L.length sz false∧lo≤q.nat∧q.nat<h.next.nat∧h.at q=.row t m z e w∧L.length*sz≤m∧z≤L.length*sz∧RowL sz 0 t L
theorem BufN.rd{e:TypeId}{sz lo:Nat}{h:H}{v:AV}{L:List (List AV)}(hb:BufN e sz lo h v L)(hL:L≠[]):Rd sz h v L:=by
  rcases hb with⟨_,rfl⟩|⟨q,t,m,z,w,rfl,_,h2,h3,h4,_,h6⟩
  · exact absurd rfl hL
  · exact .row q 0 t m z e w false rfl h2 h3 (by omega) h6
theorem BufN.one{e:TypeId}{sz lo:Nat}{h:H}{v:AV}{L:List (List AV)}(hb:BufN e sz lo h v L):v.one=true:=by
  rcases hb with⟨rfl,_⟩|⟨_,_,_,_,_,rfl,_⟩<;>rfl
theorem BufN.len{e:TypeId}{sz lo:Nat}{h:H}{v:AV}{L:List (List AV)}(hb:BufN e sz lo h v L){K:Nat→Prop}:lenV v K=K L.length:=by
  rcases hb with⟨rfl,rfl⟩|⟨_,_,_,_,_,rfl,_⟩<;>rfl
theorem Rd.len{sz:Nat}{h:H}{v:AV}{L:List (List AV)}(hr:Rd sz h v L){K:Nat→Prop}:lenV v K=K L.length:=by
  obtain⟨_,_,_,_,_,rfl,_⟩:=hr;rfl
theorem Rd.frame{sz:Nat}{h h':H}{v:AV}{L:List (List AV)}(hr:Rd sz h v L)(hn:h.next.nat≤h'.next.nat)(hf:∀c,c.nat<h.next.nat→(∀o n z b,v=.slice c o n z b→h'.at c=h.at c)):Rd sz h' v L:=by
  obtain⟨q,o,c,m,b,rfl,h1,h2,h3⟩:=hr
  exact⟨q,o,c,m,b,rfl,by omega,h2.frame (hf q h1 _ _ _ _ rfl),h3⟩
theorem elemA_i{sz i:Nat}{q:P}{o n:Nat}{b:Bool}{K:AV→Prop}(hi:i<n)(hk:K (.ptr q (o+i*sz))):elemA sz i (.slice q o n sz b) K:=by
  show Bool.rec bad0 (fN (Nat.add o (Nat.mul i sz)) (fun q'=>K (.ptr q q'))) (band (Nat.ble (Nat.add i 1) n) (Nat.beq sz sz))
  rw[show Nat.ble (Nat.add i 1) n=true from Nat.ble_eq_true_of_le hi,Nat.beq_refl]
  exact hk
theorem Rd.elem{sz i:Nat}{h:H}{v:AV}{L:List (List AV)}{K:AV→Prop}(hr:Rd sz h v L)(hi:i<L.length)(hk:∀q o,q.nat<h.next.nat→(∃o n z b,v=.slice q o n z b)→AtP h q o L[i]→K (.ptr q o)):elemA sz i v K:=by
  obtain⟨q,o,c,m,b,rfl,h1,h2,h3,h4⟩:=hr
  refine elemA_i hi (hk _ _ h1 ⟨_,_,_,_,rfl⟩ ⟨c,m,h2,?_,?_⟩)
  · rw[(h4 i hi).1]
    have:(i+1)*sz≤L.length*sz:=Nat.mul_le_mul_right _ hi
    rw[Nat.succ_mul] at this
    omega
  · exact(h4 i hi).2
theorem fAddr_i{q:P}{o j:Nat}{K:AV→Prop}:fAddr j (.ptr q o) K=K (.ptr q (o+j)):=rfl
theorem ld1x{h:H}{b:P}{c:Nat→AV}{n o:Nat}{K:AV→Prop}(ha:h.at b=.ext c n)(ho:o<n)(hk:K (c o)):Go.Den.ld1 (.ptr b o) h K:=by
  show h.read1K b o bad0 K
  unfold Hp.read1K
  rw[ha]
  show rd1Ext o bad0 K c n
  unfold rd1Ext
  rw[show Nat.ble (Nat.add o 1) n=true from Nat.ble_eq_true_of_le ho]
  show forceV (c o) K
  rw[forceV_eq];exact hk
theorem funCells_eq(c:Nat→AV):∀(n o:Nat),funCells c n o=(List.range n).map fun i=>c (o+i)
  |0,_=>rfl
  |n+1,o=>by
    show c o::funCells c n (Nat.add o 1)=_
    rw[funCells_eq c n,List.range_succ_eq_map,List.map_cons,List.map_map]
    congr 1
    exact List.map_congr_left fun i _=>by show c (o+1+i)=c (o+(i+1));congr 1;omega
theorem AtP.ld1{h:H}{q:P}{o j:Nat}{cs:List AV}{K:AV→Prop}(ha:AtP h q o cs)(hj:j<cs.length)(hk:K cs[j]):ld1 (.ptr q (o+j)) h K:=by
  obtain⟨c,m,h1,h2,h3⟩:=ha
  rcases h1 with⟨t,z,e,w,h1,rfl⟩|h1
  · refine ld1_i h1 (by omega) ?_
    rw[h3 j hj];exact hk
  · refine ld1x h1 (by omega) ?_
    rw[h3 j hj];exact hk
theorem AtP.ldn{h:H}{q:P}{o c:Nat}{cs:List AV}{K:AV→Prop}(ha:AtP h q o cs)(hj:cs.length=c)(hk:K (.agg cs)):ldn c (.ptr q o) h K:=by
  obtain⟨f,m,h1,h2,h3⟩:=ha
  have hm:(List.range c).map (fun i=>f (o+i))=cs:=by
    apply List.ext_getElem
    · simp[hj]
    · intro i h1 h2
      simp only[List.getElem_map,List.getElem_range]
      exact h3 i h2
  rcases h1 with⟨t,z,e,w,h1,rfl⟩|h1
  · refine ldn_i h1 (by omega) ?_
    rw[getCells_eq,hm];exact hk
  · show h.readK q o c bad0 (fun l=>K (.agg l))
    unfold Hp.readK
    rw[h1]
    show rdExt o c bad0 (fun l=>K (.agg l)) f m
    unfold rdExt
    rw[show Nat.ble (Nat.add o c) m=true from Nat.ble_eq_true_of_le (by show o+c≤m;omega),funCells_eq,hm]
    exact hk
theorem AtP.frame{h h':H}{q:P}{o:Nat}{cs:List AV}(ha:AtP h q o cs)(hf:h'.at q=h.at q):AtP h' q o cs:=by
  obtain⟨c,m,h1,h2⟩:=ha
  exact⟨c,m,h1.frame hf,h2⟩
theorem Rd.fld{sz i j:Nat}{h:H}{v:AV}{L:List (List AV)}{K:AV→Prop}(hr:Rd sz h v L)(hi:i<L.length)(hj:j<L[i].length)(hk:K L[i][j]):elemA sz i v fun a=>fAddr j a fun a=>Go.Den.ld1 a h K:=
  hr.elem hi fun q o _ _ ha=>by rw[fAddr_i];exact ha.ld1 hj hk
theorem Rd.all{sz i:Nat}{h:H}{v:AV}{L:List (List AV)}{K:AV→Prop}(hr:Rd sz h v L)(hi:i<L.length)(hz:L[i].length=sz)(hk:K (.agg L[i])):elemA sz i v fun a=>Go.Den.ldn sz a h K:=
  hr.elem hi fun q o _ _ ha=>ha.ldn hz hk
theorem getCells_tlist(ds:List AV)(t:Tm):getCells (tlist ds 0 t) ds.length 0=ds:=by
  rw[getCells_eq]
  apply List.ext_getElem
  · simp
  · intro i h1 h2
    simp only[List.getElem_map,List.getElem_range]
    rw[tget_tlist,if_pos (by omega),List.getD_eq_getElem?_getD,List.getElem?_eq_getElem (by omega)]
    simp
/-- the one element of a row that was just made -/
theorem one_new{h:H}{sz:Nat}{ds:List AV}{t:Tm}{e:TypeId}(hd:ds.length=sz):cellsOfArg (h.new (.row (tlist ds 0 t) sz 0 e true)) sz (.slice h.next 0 1 sz true)=some (1,ds):=by
  show(Bool.rec none (Option.rec none (fun cs=>some (1,cs)) ((h.new (.row (tlist ds 0 t) sz 0 e true)).read h.next 0 (Nat.mul 1 sz))) (Nat.beq sz sz):Option (Nat×List AV))=_
  rw[Nat.beq_refl]
  have hr:(h.new (.row (tlist ds 0 t) sz 0 e true)).read h.next 0 (Nat.mul 1 sz)=some ds:=by
    show Hp.readK _ _ _ _ _ _=_
    unfold Hp.readK
    rw[at_new_same]
    show rdRow 0 (Nat.mul 1 sz) none some (tlist ds 0 t) sz=_
    unfold rdRow
    have:Nat.mul 1 sz=ds.length:=by show 1*sz=_;omega
    rw[this,getCells_tlist,show Nat.ble (Nat.add 0 ds.length) sz=true from Nat.ble_eq_true_of_le (by show 0+ds.length≤sz;omega)]
  rw[hr]
theorem RowL.nil{sz o:Nat}{t:Tm}:RowL sz o t []:=fun i hi=>absurd hi (Nat.not_lt_zero _)
theorem RowL.app{sz:Nat}{t:Tm}{L:List (List AV)}{ds:List AV}(hr:RowL sz 0 t L)(hd:ds.length=sz):RowL sz 0 (tlist ds (L.length*sz) t) (L++[ds]):=by
  intro i hi
  rw[List.length_append,List.length_singleton] at hi
  by_cases e:i<L.length
  · rw[List.getElem_append_left e]
    refine⟨(hr i e).1,fun j hj=>?_⟩
    have:(i+1)*sz≤L.length*sz:=Nat.mul_le_mul_right _ e
    rw[Nat.succ_mul] at this
    have hj':j<sz:=by rw[←(hr i e).1];exact hj
    rw[tget_tlist,if_neg (by omega)]
    exact(hr i e).2 j hj
  · have ei:i=L.length:=by omega
    subst ei
    rw[List.getElem_append_right (Nat.le_refl _)]
    simp only[Nat.sub_self,List.getElem_cons_zero]
    refine⟨hd,fun j hj=>?_⟩
    rw[tget_tlist,if_pos (by omega),List.getD_eq_getElem?_getD,show 0+L.length*sz+j-L.length*sz=j by omega,List.getElem?_eq_getElem hj]
    rfl
theorem app_n{e:TypeId}{sz lo:Nat}{ei:TI}{h:H}{v x:AV}{L:List (List AV)}{ds:List AV}(hb:BufN e sz lo h v L)(hx:cellsOfArg h sz x=some (1,ds))(hd:ds.length=sz)(hsz:ei.size=sz)(hf:fitsMem ei (L.length+1)=true)(hlo:lo≤h.next.nat):
    ∃v' h',exAppend (some false) v x h e ei=some (v',h')∧BufN e sz lo h' v' (L++[ds])∧h.next.nat≤h'.next.nat∧∀c,c.nat<h.next.nat→(∀o n z b,v≠.slice c o n z b)→h'.at c=h.at c:=by
  have hl:lenOfS v=L.length:=by rcases hb with⟨rfl,rfl⟩|⟨_,_,_,_,_,rfl,_⟩<;>rfl
  have hok:okSlice v=true:=by rcases hb with⟨rfl,rfl⟩|⟨_,_,_,_,_,rfl,_⟩<;>rfl
  have e0:exAppend (some false) v x h e ei=appTo e sz v 1 ds h:=by
    show(Option.rec none (fun p=>Bool.rec none (Bool.rec (appTo e ei.size v p.1 p.2 h) (some (v,h)) (Nat.beq p.1 0)) (band (okSlice v) (fitsMem ei (Nat.add (lenOfS v) p.1)))) (cellsOfArg h ei.size x):Option (AV×H))=_
    rw[hsz,hx]
    show(Bool.rec none (appTo e sz v 1 ds h) (band (okSlice v) (fitsMem ei (Nat.add (lenOfS v) 1))):Option (AV×H))=_
    rw[hl,hok,show fitsMem ei (Nat.add L.length 1)=true from hf];rfl
  rw[e0]
  rcases hb with⟨rfl,rfl⟩|⟨q,t,m,z,w,rfl,h1,h2,h3,h4,h5,h6⟩
  · refine⟨.slice h.next 0 1 sz false,h.new (.row (tlist ds 0 .e) (Nat.mul 1 sz) 0 e false),rfl,.inr ⟨h.next,tlist ds 0 .e,Nat.mul 1 sz,0,false,rfl,hlo,by rw[next_new];omega,at_new_same _ _,Nat.le_refl _,Nat.zero_le _,?_⟩,by rw[next_new];omega,fun c hc _=>at_new_o hc⟩
    have:=RowL.app (t:=.e) (RowL.nil (sz:=sz) (o:=0)) hd
    rwa [show([]:List (List AV)).length*sz=0 by simp] at this
  · have e1:appTo e sz (.slice q 0 L.length sz false) 1 ds h=(Bool.rec none (appRow e q 0 L.length 1 sz ds h (asRow (h.at q))) (Nat.beq sz sz):Option (AV×H)):=rfl
    rw[e1,Nat.beq_refl,h3]
    show∃v' h',(Bool.rec none (some (.slice h.next 0 (Nat.add L.length 1) sz false,(h.put q .dead).new (.row (tlist ds (Nat.add 0 (Nat.mul L.length sz)) t) (Nat.add 0 (Nat.mul (Nat.add L.length 1) sz)) z e false)))
      (band (band (Nat.beq e e) (Nat.beq 0 0)) (band (Nat.ble (Nat.add 0 (Nat.mul L.length sz)) m) (Nat.ble z (Nat.add 0 (Nat.mul L.length sz))))):Option (AV×H))=some (v',h')∧_
    have a1:Nat.add 0 (Nat.mul L.length sz)=L.length*sz:=Nat.zero_add _
    rw[a1,Nat.beq_refl,Nat.ble_eq_true_of_le h4,Nat.ble_eq_true_of_le h5]
    refine⟨_,_,rfl,.inr ⟨h.next,_,_,z,false,?_,hlo,?_,at_new_same (h.put q .dead) _,?_,?_,h6.app hd⟩,?_,fun c hc hne=>?_⟩
    · rw[List.length_append];rfl
    · show h.next.nat<(P.succ h.next).nat
      rw[P.nat_succ];omega
    · rw[List.length_append]
      show(L.length+1)*sz≤0+(L.length+1)*sz
      omega
    · rw[List.length_append,Nat.add_mul];omega
    · show h.next.nat≤(P.succ h.next).nat
      rw[P.nat_succ];omega
    · have hcq:c≠q:=fun e'=>hne _ _ _ _ (by rw[e'])
      rw[at_new_o (show c.nat<(h.put q .dead).next.nat from hc),at_put_o hcq]
theorem BufN.frame{e:TypeId}{sz lo:Nat}{h h':H}{v:AV}{L:List (List AV)}(hb:BufN e sz lo h v L)(hn:h.next.nat≤h'.next.nat)(hf:∀c,c.nat<h.next.nat→lo≤c.nat→(∀t m z w,h.at c=.row t m z e w→h'.at c=h.at c)):BufN e sz lo h' v L:=by
  rcases hb with⟨rfl,rfl⟩|⟨q,t,m,z,w,rfl,h1,h2,h3,h4⟩
  · exact .inl ⟨rfl,rfl⟩
  · exact .inr ⟨q,t,m,z,w,rfl,h1,by omega,by rw[hf q h2 h1 _ _ _ _ h3];exact h3,h4⟩
/-- which blocks are left: those ahead of lo, and rows of other types -/
def Kp(e:TypeId)(lo:Nat)(h h':H):Prop:=h.next.nat≤h'.next.nat∧∀c,c.nat<h.next.nat→(c.nat<lo∨∃t m z e' w,h.at c=.row t m z e' w∧e'≠e)→h'.at c=h.at c
theorem Kp.refl{e:TypeId}{lo:Nat}{h:H}:Kp e lo h h:=⟨Nat.le_refl _,fun _ _ _=>rfl⟩
theorem Kp.new{e:TypeId}{lo:Nat}{h:H}{o:Ob FT}:Kp e lo h (h.new o):=⟨by rw[next_new];omega,fun _ hc _=>at_new_o hc⟩
theorem Kp.trans{e:TypeId}{lo:Nat}{h h1 h2:H}(a:Kp e lo h h1)(b:Kp e lo h1 h2):Kp e lo h h2:=by
  refine⟨Nat.le_trans a.1 b.1,fun c hc hh=>?_⟩
  have e1:=a.2 c hc hh
  rw[b.2 c (Nat.lt_of_lt_of_le hc a.1) (by rw[e1];exact hh),e1]
/-- all that was there is left -/
def Exh(h h':H):Prop:=h.next.nat≤h'.next.nat∧∀c,c.nat<h.next.nat→h'.at c=h.at c
theorem Exh.refl{h:H}:Exh h h:=⟨Nat.le_refl _,fun _ _=>rfl⟩
theorem Exh.trans{h h1 h2:H}(a:Exh h h1)(b:Exh h1 h2):Exh h h2:=⟨Nat.le_trans a.1 b.1,fun c hc=>by rw[b.2 c (Nat.lt_of_lt_of_le hc a.1),a.2 c hc]⟩
theorem Exh.new{h:H}{o:Ob FT}:Exh h (h.new o):=⟨by rw[next_new];omega,fun _ hc=>at_new_o hc⟩
theorem Exh.kp{e:TypeId}{lo:Nat}{hE h h':H}(a:Exh hE h)(hl:hE.next.nat≤lo)(b:Kp e lo h h'):Exh hE h':=
  ⟨Nat.le_trans a.1 b.1,fun c hc=>by rw[b.2 c (Nat.lt_of_lt_of_le hc a.1) (.inl (by omega)),a.2 c hc]⟩
theorem Rd.ext{sz:Nat}{h h':H}{v:AV}{L:List (List AV)}(hr:Rd sz h v L)(hx:Exh h h'):Rd sz h' v L:=hr.frame hx.1 fun c hc _ _ _ _ _=>hx.2 c hc
theorem BufN.ext{e:TypeId}{sz lo:Nat}{h h':H}{v:AV}{L:List (List AV)}(hb:BufN e sz lo h v L)(hx:Exh h h'):BufN e sz lo h' v L:=hb.frame hx.1 fun c hc _ _ _ _ _ _=>hx.2 c hc
theorem BufN.kp{e e':TypeId}{sz lo lo':Nat}{h h':H}{v:AV}{L:List (List AV)}(hb:BufN e sz lo h v L)(hx:Kp e' lo' h h')(he:e≠e'):BufN e sz lo h' v L:=hb.frame hx.1 fun c hc _ t m z w ha=>hx.2 c hc (.inr ⟨t,m,z,e,w,ha,he⟩)
theorem app_k{e:TypeId}{sz lo:Nat}{ei:TI}{h:H}{v x:AV}{L:List (List AV)}{ds:List AV}(hb:BufN e sz lo h v L)(hx:cellsOfArg h sz x=some (1,ds))(hd:ds.length=sz)(hsz:ei.size=sz)(hf:fitsMem ei (L.length+1)=true)(hlo:lo≤h.next.nat):
    ∃v' h',exAppend (some false) v x h e ei=some (v',h')∧BufN e sz lo h' v' (L++[ds])∧Kp e lo h h':=by
  obtain⟨v',h',a,b,c,d⟩:=app_n hb hx hd hsz hf hlo
  refine⟨v',h',a,b,c,fun p hp hh=>d p hp fun o n z b' ev=>?_⟩
  rcases hb with⟨rfl,_⟩|⟨q,t,m,z',w,rfl,h1,h2,h3,_⟩
  · cases ev
  · cases ev
    rcases hh with hh|⟨t',m',z'',e',w',hr,hne⟩
    · omega
    · rw[h3] at hr;cases hr;exact hne rfl
/-- a new row of one element, appended -/
theorem app_new{e:TypeId}{sz lo:Nat}{ei:TI}{h:H}{v:AV}{L:List (List AV)}{ds:List AV}{t:Tm}(hb:BufN e sz lo h v L)(hd:ds.length=sz)(hsz:ei.size=sz)(hf:fitsMem ei (L.length+1)=true)(hlo:lo≤h.next.nat){k:KV}(hk:∀v' h',BufN e sz lo h' v' (L++[ds])→Kp e lo h h'→k v' h'):
    oK (exAppend (some false) v (.slice h.next 0 1 sz true) (h.new (.row (tlist ds 0 t) sz 0 e true)) e ei) k:=by
  obtain⟨v',h',a,b,c⟩:=app_k (hb.ext Exh.new) (one_new hd) hd hsz hf (Nat.le_trans hlo (by rw[next_new];omega))
  rw[a,oK_some]
  exact hk _ _ b (Kp.new.trans c)
end Go.Den
