/-
 Proof.
-/
import Derived.Test.YtheajahjkmfeaaaGreatDoorLex2
namespace Go.Den
open Go.RowKit
set_option maxRecDepth 100000
theorem Bw{a b:Nat}{K:Int→Prop}(h:a+b≤1000000000)(hk:K (Int.ofNat (a+b))):fI (wrap .i64 (Bq (Int.ofNat a) (Int.ofNat b))) K:=by rw[Xu,Pu (by omega),Gp];exact hk
theorem Ww(x:UInt8)(n:Nat)(hn:n<256):Bx (Int.ofNat x.toNat) (Int.ofNat n)=decide (x=UInt8.ofNat n):=toNat_eq x n hn
theorem Bi8(v:AV)(h:H):Ia env h 68 9 v=Zf env 68 v h:=by kernel_rfl
theorem cvb(b:P)(o n:Nat)(h:H):Sc env 68 b o n h=(Option.rec none (fun cs=>Wj h (Gs cs)) (h.read b o n):Option (AV×H)):=by kernel_rfl
theorem Arc(h:H)(l:List UInt8):Wj h (Gs (ubs l))=some (S l,h):=by
 rw[Abf]
 show some (strOf (l.map (·.toNat)),h)=_
 rw[Asz]
theorem Atp{h:H}{q:P}{t:Tm}{m z n:Nat}{e:TypeId}{w:Bool}(ha:h.at q=.row t m z e w)(hn:n≤m):h.read q 0 n=some (Dy t n 0):=by
 unfold Hp.read Hp.Ix
 rw[ha]
 show(Nb 0 n none some t m:Option (List AV))=_
 unfold Nb
 rw[show Nat.ble (Nat.add 0 n) m=true from Nat.ble_eq_true_of_le (by show 0+n≤m;omega)]
theorem Awz{h:H}{q:P}{t:Tm}{m z:Nat}{w:Bool}{l:List UInt8}{ti:Bool}(ha:h.at q=.row t m z TB w)(hm:l.length≤m)(hc:Wc t l):Ia env h 68 9 (.slice q 0 l.length 1 ti)=some (S l,h):=by
 rw[Bi8]
 show Sc env 68 q 0 l.length h=_
 rw[cvb,Atp ha hm,hc.get]
 exact Arc h l
def eb(l:List UInt8):List (List AV):=l.map fun x=>[ub x]
theorem Lz(l:List UInt8):(eb l).length=l.length:=by unfold eb;simp
theorem Aqg(l:List UInt8)(x:UInt8):eb (l++[x])=eb l++[[ub x]]:=by unfold eb;simp
theorem Agh{l:List UInt8}{i:Nat}(h:i<l.length)(h':i<(eb l).length):(eb l)[i]=[ub l[i]]:=List.getElem_map (fun x=>[ub x]) (h:=h')
theorem Aqj{lo:Nat}{h:H}{v:AV}{l:List UInt8}(hb:Cb TB 1 lo h v (eb l)):Ia env h 68 9 v=some (S l,h):=by
 rcases hb with⟨rfl,e⟩|⟨q,t,m,z,w,rfl,h1,h2,h3,h4,h5,h6⟩
 · have:l=[]:=by cases l with
    |nil=>rfl
    |cons x l=>exact absurd e (by unfold eb;simp)
   subst this
   rw[Bi8];rfl
 · rw[Lz] at h4
   rw[Lz]
   refine Awz h3 (by omega) fun i hi=>?_
   have:=(h6 i (by rw[Lz];exact hi)).2 0 (by rw[Agh hi];exact Nat.one_pos)
   simp only[Agh hi,List.getElem_cons_zero] at this
   rw[←this]
   congr 1;omega
theorem Ayf{lo:Nat}{h:H}{v:AV}{l:List UInt8}{x:UInt8}(hb:Cb TB 1 lo h v (eb l))(hl:l.length+1≤1099511627776)(hlo:lo≤h.next.nat){k:KV}(hk:∀v' h',Cb TB 1 lo h' v' (eb (l++[x]))→Kp TB lo h h'→k v' h'):
 oK (Ap env 68 (fun e ei=>Ak 1 [(0,.int .u8 (Int.ofNat x.toNat))] h e ei)) fun x h'=>oK (Ar env .append [68,68] [v,x] h') k:=by
 rw[Bjv,Ad,A4i]
 exact Zg (ds:=[ub x]) hb rfl (by rfl) (Ap8 (by rw[Lz];exact hl)) hlo (by rw[←Aqg];exact hk)
def KpS(e:TypeId)(lo:Nat)(h h':H):Prop:=h.next.nat≤h'.next.nat∧∀c,c.nat<h.next.nat→(c.nat<lo∨∀t m z w,h.at c≠.row t m z e w)→h'.at c=h.at c
theorem KpS.refl{e:TypeId}{lo:Nat}{h:H}:KpS e lo h h:=⟨Nat.le_refl _,fun _ _ _=>rfl⟩
theorem KpS.new{e:TypeId}{lo:Nat}{h:H}{o:Ob FT}:KpS e lo h (h.new o):=⟨by rw[Bf];omega,fun _ hc _=>Gq hc⟩
theorem KpS.trans{e:TypeId}{lo:Nat}{h h1 h2:H}(a:KpS e lo h h1)(b:KpS e lo h1 h2):KpS e lo h h2:=by
 refine⟨Nat.le_trans a.1 b.1,fun c hc hh=>?_⟩
 have e1:=a.2 c hc hh
 rw[b.2 c (Nat.lt_of_lt_of_le hc a.1) (by rw[e1];exact hh),e1]
theorem Exh.kps{e:TypeId}{lo:Nat}{h h':H}(x:Exh h h'):KpS e lo h h':=⟨x.1,fun c hc _=>x.2 c hc⟩
theorem KpS.kp{e:TypeId}{lo:Nat}{h h':H}(x:KpS e lo h h'):Kp e lo h h':=⟨x.1,fun c hc hh=>x.2 c hc (hh.imp id fun⟨t,m,z,e',w,ha,hne⟩ t' m' z' w' hb=>by rw[ha] at hb;cases hb;exact hne rfl)⟩
theorem Cb.kps{e e':TypeId}{sz lo lo':Nat}{h h':H}{v:AV}{L:List (List AV)}(hb:Cb e sz lo h v L)(hx:KpS e' lo' h h')(he:e≠e'):Cb e sz lo h' v L:=hb.kp hx.kp he
theorem Cb.sl{e:TypeId}{sz lo:Nat}{h:H}{v:AV}{L:List (List AV)}(hb:Cb e sz lo h v L):v=.Ai∨∃b o n z t,v=.slice b o n z t:=by
 rcases hb with⟨rfl,_⟩|⟨q,_,_,_,_,rfl,_⟩
 · exact .inl rfl
 · exact .inr ⟨_,_,_,_,_,rfl⟩
theorem Adk{sz:Nat}:∀(M:List (List AV))(_:∀c∈M,c.length=sz)(i j:Nat)(hi:i<M.length)(hj:j<M[i].length),M.flatten.getD (i*sz+j) .undef=M[i][j]
 |[],_,i,_,hi,_=>absurd hi (Nat.not_lt_zero _)
 |c::M,hM,0,j,hi,hj=>by
  have hj:j<c.length:=hj
  rw[List.flatten_cons,Nat.zero_mul,Nat.zero_add,List.getD_eq_getElem?_getD,List.getElem?_append_left hj,List.getElem?_eq_getElem hj]
  rfl
 |c::M,hM,i+1,j,hi,hj=>by
  have hc:c.length=sz:=hM c (by simp)
  have ih:=Adk M (fun d hd=>hM d (by simp[hd])) i j (by simpa using hi) hj
  rw[List.flatten_cons,List.getD_eq_getElem?_getD,List.getElem?_append_right (by rw[hc,Nat.succ_mul];omega),hc,show(i+1)*sz+j-sz=i*sz+j by rw[Nat.succ_mul];omega,←List.getD_eq_getElem?_getD,ih]
  rfl
theorem Aix{sz:Nat}:∀(M:List (List AV))(_:∀c∈M,c.length=sz),M.flatten.length=M.length*sz
 |[],_=>by simp
 |c::M,hM=>by
  rw[List.flatten_cons,List.length_append,hM c (by simp),Aix M (fun d hd=>hM d (by simp[hd])),List.length_cons,Nat.succ_mul];omega
theorem Ld.Ayg{sz:Nat}{t:Tm}{L M:List (List AV)}(hr:Ld sz 0 t L)(hM:∀c∈M,c.length=sz):Ld sz 0 (Aj M.flatten (L.length*sz) t) (L++M):=by
 intro i hi
 rw[List.length_append] at hi
 by_cases e:i<L.length
 · rw[List.getElem_append_left e]
   refine⟨(hr i e).1,fun j hj=>?_⟩
   have:(i+1)*sz≤L.length*sz:=Nat.mul_le_mul_right _ e
   rw[Nat.succ_mul] at this
   have hj':j<sz:=by rw[←(hr i e).1];exact hj
   rw[Ah,if_neg (by omega)]
   exact(hr i e).2 j hj
 · rw[List.getElem_append_right (by omega)]
   have hi':i-L.length<M.length:=by omega
   have hz:=hM _ (List.getElem_mem hi')
   refine⟨hz,fun j hj=>?_⟩
   have h1:i*sz=L.length*sz+(i-L.length)*sz:=by rw[←Nat.add_mul];congr 1;omega
   have h2:(i-L.length+1)*sz≤M.length*sz:=Nat.mul_le_mul_right _ hi'
   rw[Nat.succ_mul] at h2
   rw[Ah,if_pos ⟨by omega,by rw[Aix M hM];omega⟩,show 0+i*sz+j-L.length*sz=(i-L.length)*sz+j by omega]
   exact Adk M hM _ _ hi' hj
theorem Bj6{e:TypeId}{sz lo:Nat}{ei:TI}{h:H}{v x:AV}{L M:List (List AV)}(hb:Cb e sz lo h v L)(hx:Ck h sz x=some (M.length,M.flatten))(hM:∀c∈M,c.length=sz)(hsz:ei.size=sz)(hf:Bv ei (L.length+M.length)=true)(hlo:lo≤h.next.nat):
 ∃v' h',Co (some false) v x h e ei=some (v',h')∧Cb e sz lo h' v' (L++M)∧h.next.nat≤h'.next.nat∧∀c,c.nat<h.next.nat→(∀o n z b,v≠.slice c o n z b)→h'.at c=h.at c:=by
 have hl:Fh v=L.length:=by rcases hb with⟨rfl,rfl⟩|⟨_,_,_,_,_,rfl,_⟩<;>rfl
 have hok:Fe v=true:=by rcases hb with⟨rfl,rfl⟩|⟨_,_,_,_,_,rfl,_⟩<;>rfl
 have e0:Co (some false) v x h e ei=(Bool.rec (Gy e sz v M.length M.flatten h) (some (v,h)) (Nat.beq M.length 0):Option (AV×H)):=by
  show(Option.rec none (fun p=>Bool.rec none (Bool.rec (Gy e ei.size v p.1 p.2 h) (some (v,h)) (Nat.beq p.1 0)) (An (Fe v) (Bv ei (Nat.add (Fh v) p.1)))) (Ck h ei.size x):Option (AV×H))=_
  rw[hsz,hx]
  show(Bool.rec none (Bool.rec (Gy e sz v M.length M.flatten h) (some (v,h)) (Nat.beq M.length 0)) (An (Fe v) (Bv ei (Nat.add (Fh v) M.length))):Option (AV×H))=_
  rw[hl,hok,show Bv ei (Nat.add L.length M.length)=true from hf];rfl
 rw[e0]
 by_cases hm:M=[]
 · subst hm
   exact⟨v,h,rfl,by rw[List.append_nil];exact hb,Nat.le_refl _,fun _ _ _=>rfl⟩
 have hbq:Nat.beq M.length 0=false:=by
  cases M with
  |nil=>exact absurd rfl hm
  |cons _ _=>rfl
 rw[hbq]
 rcases hb with⟨rfl,rfl⟩|⟨q,t,m,z,w,rfl,h1,h2,h3,h4,h5,h6⟩
 · refine⟨.slice h.next 0 M.length sz false,h.new (.row (Aj M.flatten 0 .e) (Nat.mul M.length sz) 0 e false),rfl,.inr ⟨h.next,Aj M.flatten 0 .e,Nat.mul M.length sz,0,false,rfl,hlo,by rw[Bf];omega,Bc _ _,Nat.le_refl _,Nat.zero_le _,?_⟩,by rw[Bf];omega,fun c hc _=>Gq hc⟩
   have:=Ld.Ayg (t:=.e) (Ld.nil (sz:=sz) (o:=0)) hM
   rwa [show([]:List (List AV)).length*sz=0 by simp] at this
 · have e1:Gy e sz (.slice q 0 L.length sz false) M.length M.flatten h=(Bool.rec none (Tu e q 0 L.length M.length sz M.flatten h (Em (h.at q))) (Nat.beq sz sz):Option (AV×H)):=rfl
   show∃v' h',Gy e sz (.slice q 0 L.length sz false) M.length M.flatten h=some (v',h')∧_
   rw[e1,Nat.beq_refl,h3]
   show∃v' h',(Bool.rec none (some (.slice h.next 0 (Nat.add L.length M.length) sz false,(h.put q .dead).new (.row (Aj M.flatten (Nat.add 0 (Nat.mul L.length sz)) t) (Nat.add 0 (Nat.mul (Nat.add L.length M.length) sz)) z e false)))
    (An (An (Nat.beq e e) (Nat.beq 0 0)) (An (Nat.ble (Nat.add 0 (Nat.mul L.length sz)) m) (Nat.ble z (Nat.add 0 (Nat.mul L.length sz))))):Option (AV×H))=some (v',h')∧_
   have a1:Nat.add 0 (Nat.mul L.length sz)=L.length*sz:=Nat.zero_add _
   rw[a1,Nat.beq_refl,Nat.ble_eq_true_of_le h4,Nat.ble_eq_true_of_le h5]
   refine⟨_,_,rfl,.inr ⟨h.next,_,_,z,false,?_,hlo,?_,Bc (h.put q .dead) _,?_,?_,h6.Ayg hM⟩,?_,fun c hc hne=>?_⟩
   · rw[List.length_append];rfl
   · show h.next.nat<(P.succ h.next).nat
     rw[P.Dx];omega
   · rw[List.length_append]
     show(L.length+M.length)*sz≤0+(L.length+M.length)*sz
     omega
   · rw[List.length_append,Nat.add_mul];omega
   · show h.next.nat≤(P.succ h.next).nat
     rw[P.Dx];omega
   · have hcq:c≠q:=fun e'=>hne _ _ _ _ (by rw[e'])
     rw[Gq (show c.nat<(h.put q .dead).next.nat from hc),Az hcq]
theorem Cb.own{e:TypeId}{sz lo:Nat}{h:H}{v:AV}{L:List (List AV)}(hb:Cb e sz lo h v L){c:P}(hh:c.nat<lo∨∀t m z w,h.at c≠.row t m z e w):∀o n z b,v≠.slice c o n z b:=fun o n z b ev=>by
 rcases hb with⟨rfl,_⟩|⟨q,t,m,z',w,rfl,h1,h2,h3,_⟩
 · cases ev
 · cases ev
   rcases hh with hh|hh
   · omega
   · exact hh _ _ _ _ h3
theorem Agx{e:TypeId}{sz lo:Nat}{ei:TI}{h:H}{v x:AV}{L M:List (List AV)}(hb:Cb e sz lo h v L)(hx:Ck h sz x=some (M.length,M.flatten))(hM:∀c∈M,c.length=sz)(hsz:ei.size=sz)(hf:Bv ei (L.length+M.length)=true)(hlo:lo≤h.next.nat){k:KV}(hk:∀v' h',Cb e sz lo h' v' (L++M)→KpS e lo h h'→k v' h'):
 oK (Co (some false) v x h e ei) k:=by
 obtain⟨v',h',a,b,c,d⟩:=Bj6 hb hx hM hsz hf hlo
 rw[a,Ad]
 exact hk _ _ b ⟨c,fun p hp hh=>d p hp (hb.own hh)⟩
theorem Bj4{e:TypeId}{sz lo:Nat}{ei:TI}{h h0:H}{q:P}{v:AV}{L:List (List AV)}{ds:List AV}{t:Tm}(hb:Cb e sz lo h v L)(hd:ds.length=sz)(hsz:ei.size=sz)(hf:Bv ei (L.length+1)=true)(hlo:lo≤h.next.nat)(hh:h0.new (.row (Aj ds 0 t) sz 0 e true)=h)(hq:q=h0.next){k:KV}(hk:∀v' h',Cb e sz lo h' v' (L++[ds])→KpS e lo h h'→k v' h'):
 oK (Co (some false) v (.slice q 0 1 sz true) h e ei) k:=by
 subst hh hq
 refine Agx (M:=[ds]) hb (by rw[Yn hd];simp) (fun c hc=>by simp at hc;rw[hc];exact hd) hsz hf hlo hk
theorem Ft{l:List AV}{K:Prop}(h:l≠[])(hk:K):chk (Nat.ble 1 (len l)) K:=by
 cases l with
 |nil=>exact absurd rfl h
 |cons x l=>
  rw[De,show Nat.ble 1 (x::l).length=true from Nat.ble_eq_true_of_le (by simp)];exact hk
theorem AtP.newRow{h:H}{e:TypeId}{cs:List AV}:AtP (h.new (rowOf e cs)) h.next 0 cs:=by
 refine .row (Aj cs 0 .e) cs.length 0 e true ?_ (by omega) fun j hj=>?_
 · rw[Bc];unfold rowOf;rw[De]
 · rw[Ah,if_pos (by omega),List.getD_eq_getElem?_getD,List.getElem?_eq_getElem (by omega)]
   simp
theorem Ko{h:H}{e:TypeId}{zs cs:List AV}{c:Nat}{K:H→Prop}(hz:zs.length=c)(hc:cs.length=c)(h1:1≤c)(hk:∀h',Exh h h'→h.next.nat<h'.next.nat→AtP h' h.next 0 cs→K h'):stn c (.ptr h.next 0) (.agg cs) (h.new (rowOf e zs)) K:=by
 have ha:(h.new (rowOf e zs)).at h.next=.row (Aj zs 0 .e) c 0 e true:=by
  rw[Bc];unfold rowOf;rw[De,hz]
 refine Amb ha (Nat.le_refl _) hc h1 (by omega) (hk _ ⟨by rw[Dq,Bf];omega,fun d hd=>?_⟩ (by rw[Dq,Bf];omega) (.row _ c 0 e true (Ba _ _ _) (by omega) fun j hj=>?_))
 · rw[Az (fun e'=>by subst e';omega),Gq hd]
 · rw[Ah,if_pos (by omega),List.getD_eq_getElem?_getD,List.getElem?_eq_getElem (by omega)]
   simp
theorem AtP.Bej{h:H}{q:P}{o j c:Nat}{cs:List AV}{K:AV→Prop}(ha:AtP h q o cs)(hj:j+c≤cs.length)(hk:K (.agg ((cs.drop j).take c))):Go.Den.ldn c (.ptr q (o+j)) h K:=by
 obtain⟨f,m,h1,h2,h3⟩:=ha
 refine AtP.ldn (cs:=(cs.drop j).take c) ⟨f,m,h1,by rw[List.length_take,List.length_drop];omega,fun i hi=>?_⟩ (by rw[List.length_take,List.length_drop];omega) hk
 rw[List.length_take,List.length_drop] at hi
 rw[Nat.add_assoc,h3 (j+i) (by omega),List.getElem_take,List.getElem_drop]
theorem AtP.ext{h h':H}{q:P}{o:Nat}{cs:List AV}(ha:AtP h q o cs)(hx:Exh h h')(hq:q.nat<h.next.nat):AtP h' q o cs:=ha.frame (hx.2 q hq)
theorem Agc{v:AV}{A:Prop}(h:v=.Ai∨∃b o n z t,v=.slice b o n z t):eqC v v A=A:=by
 rcases h with rfl|⟨b,o,n,z,t,rfl⟩
 · rfl
 · show Bool.rec As A (An (An (P.beq b b) (Nat.beq o o)) (An (An (Nat.beq n n) (Nat.beq z z)) (Ajq t t)))=A
   rw[P.beq_refl,Nat.beq_refl,Nat.beq_refl,Nat.beq_refl,Xg]
   rfl
def Tx(lo:Nat)(h:H)(b:P)(l:List UInt8):Prop:=∃t,h.at b=.row t 2 0 183 true∧b.nat<h.next.nat∧(Aw t 0=.Cm∨Aw t 0=.ptr b 0)∧Cb TB 1 lo h (Aw t 1) (eb l)∧(l=[]→Aw t 1=.Ai)
def FrB(lo:Nat)(b:P)(h h':H):Prop:=h.next.nat≤h'.next.nat∧∀c,c.nat<h.next.nat→c≠b→(c.nat<lo∨∀t m z w,h.at c≠.row t m z TB w)→h'.at c=h.at c
theorem Tx.new(lo:Nat)(h:H):Tx lo (h.new Xs) h.next []:=
 ⟨Aj [.Cm,.Ai] 0 .e,Bc _ _,by rw[Bf];omega,.inl (by kernel_rfl),.inl ⟨by kernel_rfl,rfl⟩,fun _=>by kernel_rfl⟩
theorem Tx.ext{lo:Nat}{h h':H}{b:P}{l:List UInt8}(hb:Tx lo h b l)(hx:Exh h h'):Tx lo h' b l:=by
 obtain⟨t,a1,a2,a3,a4,a5⟩:=hb
 exact⟨t,by rw[hx.2 b a2];exact a1,by have:=hx.1;omega,a3,a4.ext hx,a5⟩
theorem A1o(l:List UInt8):(eb l).flatten=ubs l:=by
 induction l with
 |nil=>rfl
 |cons x l ih=>show[ub x]++(eb l).flatten=ub x::ubs l;rw[ih];rfl
theorem A9e(l m:List UInt8):eb (l++m)=eb l++eb m:=by unfold eb;rw[List.map_append]
theorem A9f(l:List UInt8):∀c∈eb l,c.length=1:=fun c hc=>by
 obtain⟨x,_,rfl⟩:=List.mem_map.1 hc;rfl
theorem Ajv{e:TypeId}{sz lo:Nat}{ei:TI}{h:H}{v x:AV}{L:List (List AV)}(hb:Cb e sz lo h v L)(hx:Ck h sz x=some (0,[]))(hsz:ei.size=sz)(hf:Bv ei (L.length+0)=true):Co (some false) v x h e ei=some (v,h):=by
 have hl:Fh v=L.length:=by rcases hb with⟨rfl,rfl⟩|⟨_,_,_,_,_,rfl,_⟩<;>rfl
 have hok:Fe v=true:=by rcases hb with⟨rfl,rfl⟩|⟨_,_,_,_,_,rfl,_⟩<;>rfl
 show(Option.rec none (fun p=>Bool.rec none (Bool.rec (Gy e ei.size v p.1 p.2 h) (some (v,h)) (Nat.beq p.1 0)) (An (Fe v) (Bv ei (Nat.add (Fh v) p.1)))) (Ck h ei.size x):Option (AV×H))=_
 rw[hsz,hx]
 show(Bool.rec none (some (v,h)) (An (Fe v) (Bv ei (Nat.add (Fh v) 0))):Option (AV×H))=_
 rw[hl,hok,show Bv ei (Nat.add L.length 0)=true from hf];rfl
theorem Bop{lo:Nat}{h:H}{b:P}{l m:List UInt8}{k:KV}(hb:Tx lo h b l)(hlo:lo≤h.next.nat)(hl:l.length+m.length≤1099511627776)(hk:∀v h',Tx lo h' b (l++m)→FrB lo b h h'→k v h'):W1 (.func 72) [.ptr b 0,S m] h k:=by
 obtain⟨t,ha,hn,h0,hbuf,hnil⟩:=hb
 refine w72 (n:=1) Bg (g72 ?_)
 unfold Am3
 refine c96 ha h0 fun h1 t1 a1 p1 q1 n1 f1=>?_
 rw[Am,Ad,Pf]
 refine Eh a1 (by decide) ?_
 have n1':h1.next.nat=h.next.nat:=by rw[n1]
 have hbuf1:Cb TB 1 lo h1 (Aw t1 1) (eb l):=by
  rw[q1]
  exact hbuf.frame (by rw[n1];exact Nat.le_refl _) fun c hc _ tt mm z w hh=>f1 c fun e'=>by subst e';rw[ha] at hh;cases hh
 have hn1:b.nat<h1.next.nat:=by rw[n1];exact hn
 rw[Bpb]
 have fin:∀v' h3,Cb TB 1 lo h3 v' (eb (l++m))→(l++m=[]→v'=.Ai)→KpS TB lo h1 h3→oK (Ag (.ptr b 0) h3) fun v9 h10=>Ac 1 v9 fun v11=>st1 v11 v' h10 fun h12=>k (.tuple [.int .i64 (Int.ofNat m.length),.Mf]) h12:=fun v' h3 b3 hv x3=>by
  have x31:=x3.1
  rw[Am,Ad,Pf]
  have a3:h3.at b=.row t1 2 0 183 true:=by rw[x3.2 b hn1 (.inr fun t' m' z w hh=>by rw[a1] at hh;cases hh)];exact a1
  refine Iw a3 (Nat.zero_le _) (by decide) b3.one ?_
  have e1:Aw (Aj [v'] 1 t1) 1=v':=by rw[Ah];simp
  refine hk _ _ ⟨_,Ba _ _ _,by rw[Dq];omega,.inr (by rw[Ah];simp[p1]),?_,fun e=>by rw[e1];exact hv e⟩ ⟨by rw[Dq];omega,fun c hc hcb hh=>?_⟩
  · rw[e1]
    exact b3.frame (Nat.le_refl _) fun c hc _ tt mm z w hh=>Az fun e'=>by subst e';rw[a3] at hh;cases hh
  · rw[Az hcb,x3.2 c (by rw[n1];exact hc) (hh.imp id fun hh t' m' z w=>by rw[f1 c hcb];exact hh t' m' z w),f1 c hcb]
 by_cases hm:m=[]
 · subst hm
   rw[Ajv hbuf1 (by rw[Adt];rfl) rfl (Ap8 (by rw[Lz];simpa using hl)),Ad]
   exact fin _ _ (by rw[List.append_nil];exact hbuf1) (fun e=>by rw[q1];exact hnil (by simpa using e)) .refl
 · refine Agx (M:=eb m) hbuf1 (by rw[Adt,Lz,A1o]) (A9f m) rfl (Ap8 (by rw[Lz,Lz];exact hl)) (by rw[n1];exact hlo) fun v' h3 b3 x3=>?_
   exact fin v' h3 (by rw[A9e];exact b3) (fun e=>absurd (List.append_eq_nil_iff.1 e).2 hm) x3
theorem Bax{lo:Nat}{h:H}{b:P}{l:List UInt8}{k:KV}(hb:Tx lo h b l)(hl:l.length≤9223372036854775807)(hk:∀h',KpS TB lo h h'→k (S l) h'):W1 (.func 69) [.ptr b 0] h k:=by
 obtain⟨t,ha,hn,h0,hbuf,hnil⟩:=hb
 refine w69 (n:=1) Bg (g69 ?_)
 unfold Am6
 rw[Am,Ad,Pf]
 refine Eh ha (by decide) ?_
 by_cases hne:l=[]
 · subst hne
   have e:=hnil rfl
   rw[e,Bdj]
   rw[show(Hi AV.Ai h:Option (AV×H))=some (.Cm,h) from rfl,Ad,Am,Ad,Pf]
   refine Eh ha (by decide) ?_
   rw[e]
   show oK (Ar env .unsafeString [225,3] [.Cm,.int .i64 (Int.ofNat 0)] h) _
   rw[Bcs,show(Rl env .Cm (Bp (.int .i64 (Int.ofNat 0))) h:Option (AV×H))=some (.str 0 0,h) from rfl,Ad]
   exact hk h .refl
 · rcases hbuf with⟨e,e2⟩|⟨q,t1,m,z,w,e,h1,h2,h3,h4,h5,h6⟩
   · exfalso
     cases l with
     |nil=>exact hne rfl
     |cons x l=>exact absurd e2 (by unfold eb;simp)
   rw[Lz] at e h4 h5
   have hpos:l.length=(l.length-1)+1:=by
    cases l with
    |nil=>exact absurd rfl hne
    |cons _ _=>simp
   have hcells:Wc t1 l:=fun i hi=>by
    have:=(h6 i (by rw[Lz];exact hi)).2 0 (by rw[Agh hi];exact Nat.one_pos)
    simp only[Agh hi,List.getElem_cons_zero] at this
    rw[←this]
    congr 1;omega
   have e1:(Hi (.slice q 0 l.length 1 false) h:Option (AV×H))=some (.ptr q 0,h):=by rw[hpos];rfl
   rw[e,Bdj,e1,Ad,Am,Ad,Pf]
   refine Eh ha (by decide) ?_
   rw[e,A00,Bcs]
   have e2:Rl env (.ptr q 0) (Bp (.int .i64 (Int.ofNat l.length))) h=(Bool.rec (Al9 env q 0 l.length h (Em (h.at q))) (some (.str 0 0,h)) (Nat.beq l.length 0):Option (AV×H)):=rfl
   have e3:Nat.beq l.length 0=false:=by rw[hpos];rfl
   rw[e2,e3,h3]
   show oK (Bool.rec none (Wj (h.put q (.row t1 m (Nat.add m 1) TB w)) (Gs (Dy t1 l.length 0))) (An (isByte env TB) (An (Nat.ble (Nat.add 0 l.length) m) (Nat.ble l.length (intMax .i64)))):Option (AV×H)) _
   rw[isB,Nat.ble_eq_true_of_le (show Nat.add 0 l.length≤m by show 0+l.length≤m;omega),Nat.ble_eq_true_of_le (show l.length≤intMax .i64 from hl),hcells.get,Abf]
   show oK (some (strOf (l.map (·.toNat)),h.put q (.row t1 m (Nat.add m 1) TB w)):Option (AV×H)) _
   rw[Asz,Ad]
   refine hk _ ⟨Nat.le_refl _,fun c hc hh=>Az fun e'=>?_⟩
   subst e'
   rcases hh with hh|hh
   · omega
   · exact hh _ _ _ _ h3
theorem Bjh{lo:Nat}{h:H}{b:P}{l:List UInt8}{x:UInt8}{k:KV}(hb:Tx lo h b l)(hlo:lo≤h.next.nat)(hl:l.length+1≤1099511627776)(hk:∀v h',Tx lo h' b (l++[x])→FrB lo b h h'→k v h'):W1 (.func 68) [.ptr b 0,.int .u8 (Int.ofNat x.toNat)] h k:=by
 obtain⟨t,ha,hn,h0,hbuf,hnil⟩:=hb
 refine w68 (n:=1) Bg (g68 ?_)
 unfold Am7
 refine c96 ha h0 fun h1 t1 a1 p1 q1 n1 f1=>?_
 rw[Am,Ad,Pf]
 refine Eh a1 (by decide) ?_
 have hbuf1:Cb TB 1 lo h1 (Aw t1 1) (eb l):=by
  rw[q1]
  exact hbuf.frame (by rw[n1];exact Nat.le_refl _) fun c hc _ tt mm z w hh=>f1 c fun e'=>by subst e';rw[ha] at hh;cases hh
 have hn1:b.nat<h1.next.nat:=by rw[n1];exact hn
 rw[Bjv,Ad,A4i]
 refine Bj4 (ds:=[ub x]) (hbuf1.ext .new) rfl rfl (Ap8 (by rw[Lz];exact hl)) (by rw[Bf,n1];omega) rfl rfl fun v' h3 b3 x3'=>?_
 have x3:KpS TB lo h1 h3:=(Exh.kps .new).trans x3'
 have n1':h1.next.nat=h.next.nat:=by rw[n1]
 have x31:=x3.1
 rw[←Aqg] at b3
 rw[Am,Ad,Pf]
 have a3:h3.at b=.row t1 2 0 183 true:=by rw[x3.2 b hn1 (.inr fun t' m' z w hh=>by rw[a1] at hh;cases hh)];exact a1
 refine Iw a3 (Nat.zero_le _) (by decide) b3.one ?_
 have e1:Aw (Aj [v'] 1 t1) 1=v':=by rw[Ah];simp
 refine hk _ _ ⟨_,Ba _ _ _,by rw[Dq];omega,.inr (by rw[Ah];simp[p1]),?_,fun e=>by simp at e⟩ ⟨by rw[Dq];omega,fun c hc hcb hh=>?_⟩
 · rw[e1]
   exact b3.frame (Nat.le_refl _) fun c hc _ tt mm z w hh=>Az fun e'=>by subst e';rw[a3] at hh;cases hh
 · rw[Az hcb,x3.2 c (by rw[n1];exact hc) (hh.imp id fun hh t' m' z w=>by rw[f1 c hcb];exact hh t' m' z w),f1 c hcb]
end Go.Den
