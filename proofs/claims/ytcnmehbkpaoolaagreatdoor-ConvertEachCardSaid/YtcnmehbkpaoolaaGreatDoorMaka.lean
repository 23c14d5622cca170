/-
 Proof.
-/
import Derived.Test.YtcnmehbkpaoolaaGreatDoorLex7
import Derived.Test.YtcnmehbkpaoolaaGreatDoorByts
namespace Go.Den
open Go.RowKit
set_option maxRecDepth 100000
def KpS(e:TypeId)(lo:Nat)(h h':H):Prop:=h.next.nat≤h'.next.nat∧∀c,c.nat<h.next.nat→(c.nat<lo∨∀t m z w,h.at c≠.row t m z e w)→h'.at c=h.at c
theorem KpS.refl{e:TypeId}{lo:Nat}{h:H}:KpS e lo h h:=⟨Nat.le_refl _,fun _ _ _=>rfl⟩
theorem KpS.new{e:TypeId}{lo:Nat}{h:H}{o:Ob FT}:KpS e lo h (h.new o):=⟨by rw[Be];omega,fun _ hc _=>Dd hc⟩
theorem KpS.kp{e:TypeId}{lo:Nat}{h h':H}(x:KpS e lo h h'):Kp e lo h h':=⟨x.1,fun c hc hh=>x.2 c hc (hh.imp id fun⟨t,m,z,e',w,ha,hne⟩ t' m' z' w' hb=>by rw[ha] at hb;cases hb;exact hne rfl)⟩
theorem Cv.kps{e e':TypeId}{sz lo lo':Nat}{h h':H}{v:AV}{L:List (List AV)}(hb:Cv e sz lo h v L)(hx:KpS e' lo' h h')(he:e≠e'):Cv e sz lo h' v L:=hb.kp hx.kp he
theorem Cv.sl{e:TypeId}{sz lo:Nat}{h:H}{v:AV}{L:List (List AV)}(hb:Cv e sz lo h v L):v=.Ad∨∃b o n z t,v=.slice b o n z t:=by
 rcases hb with⟨rfl,_⟩|⟨q,_,_,_,_,rfl,_⟩
 · exact .inl rfl
 · exact .inr ⟨_,_,_,_,_,rfl⟩
theorem Wd{sz:Nat}:∀(M:List (List AV))(_:∀c∈M,c.length=sz)(i j:Nat)(hi:i<M.length)(hj:j<M[i].length),M.flatten.getD (i*sz+j) .undef=M[i][j]
 |[],_,i,_,hi,_=>absurd hi (Nat.not_lt_zero _)
 |c::M,hM,0,j,hi,hj=>by
  have hj:j<c.length:=hj
  rw[List.flatten_cons,Nat.zero_mul,Nat.zero_add,List.getD_eq_getElem?_getD,List.getElem?_append_left hj,List.getElem?_eq_getElem hj]
  rfl
 |c::M,hM,i+1,j,hi,hj=>by
  have hc:c.length=sz:=hM c (by simp)
  have ih:=Wd M (fun d hd=>hM d (by simp[hd])) i j (by simpa using hi) hj
  rw[List.flatten_cons,List.getD_eq_getElem?_getD,List.getElem?_append_right (by rw[hc,Nat.succ_mul];omega),hc,show(i+1)*sz+j-sz=i*sz+j by rw[Nat.succ_mul];omega,←List.getD_eq_getElem?_getD,ih]
  rfl
theorem Aaq{sz:Nat}:∀(M:List (List AV))(_:∀c∈M,c.length=sz),M.flatten.length=M.length*sz
 |[],_=>by simp
 |c::M,hM=>by
  rw[List.flatten_cons,List.length_append,hM c (by simp),Aaq M (fun d hd=>hM d (by simp[hd])),List.length_cons,Nat.succ_mul];omega
theorem Mv.Bgv{sz:Nat}{t:Tm}{L M:List (List AV)}(hr:Mv sz 0 t L)(hM:∀c∈M,c.length=sz):Mv sz 0 (Ai M.flatten (L.length*sz) t) (L++M):=by
 intro i hi
 rw[List.length_append] at hi
 by_cases e:i<L.length
 · rw[List.getElem_append_left e]
   refine⟨(hr i e).1,fun j hj=>?_⟩
   have:(i+1)*sz≤L.length*sz:=Nat.mul_le_mul_right _ e
   rw[Nat.succ_mul] at this
   have hj':j<sz:=by rw[←(hr i e).1];exact hj
   rw[Ar,if_neg (by omega)]
   exact(hr i e).2 j hj
 · rw[List.getElem_append_right (by omega)]
   have hi':i-L.length<M.length:=by omega
   have hz:=hM _ (List.getElem_mem hi')
   refine⟨hz,fun j hj=>?_⟩
   have h1:i*sz=L.length*sz+(i-L.length)*sz:=by rw[←Nat.add_mul];congr 1;omega
   have h2:(i-L.length+1)*sz≤M.length*sz:=Nat.mul_le_mul_right _ hi'
   rw[Nat.succ_mul] at h2
   rw[Ar,if_pos ⟨by omega,by rw[Aaq M hM];omega⟩,show 0+i*sz+j-L.length*sz=(i-L.length)*sz+j by omega]
   exact Wd M hM _ _ hi' hj
theorem Bgt{e:TypeId}{sz lo:Nat}{ei:TI}{h:H}{v x:AV}{L M:List (List AV)}(hb:Cv e sz lo h v L)(hx:Bv h sz x=some (M.length,M.flatten))(hM:∀c∈M,c.length=sz)(hsz:ei.size=sz)(hf:Cf ei (L.length+M.length)=true)(hlo:lo≤h.next.nat):
 ∃v' h',Dc (some false) v x h e ei=some (v',h')∧Cv e sz lo h' v' (L++M)∧h.next.nat≤h'.next.nat∧∀c,c.nat<h.next.nat→(∀o n z b,v≠.slice c o n z b)→h'.at c=h.at c:=by
 have hl:Em v=L.length:=by rcases hb with⟨rfl,rfl⟩|⟨_,_,_,_,_,rfl,_⟩<;>rfl
 have hok:Eu v=true:=by rcases hb with⟨rfl,rfl⟩|⟨_,_,_,_,_,rfl,_⟩<;>rfl
 have e0:Dc (some false) v x h e ei=(Bool.rec (Ip e sz v M.length M.flatten h) (some (v,h)) (Nat.beq M.length 0):Option (AV×H)):=by
  show(Option.rec none (fun p=>Bool.rec none (Bool.rec (Ip e ei.size v p.1 p.2 h) (some (v,h)) (Nat.beq p.1 0)) (Ah (Eu v) (Cf ei (Nat.add (Em v) p.1)))) (Bv h ei.size x):Option (AV×H))=_
  rw[hsz,hx]
  show(Bool.rec none (Bool.rec (Ip e sz v M.length M.flatten h) (some (v,h)) (Nat.beq M.length 0)) (Ah (Eu v) (Cf ei (Nat.add (Em v) M.length))):Option (AV×H))=_
  rw[hl,hok,show Cf ei (Nat.add L.length M.length)=true from hf];rfl
 rw[e0]
 by_cases hm:M=[]
 · subst hm
   exact⟨v,h,rfl,by rw[List.append_nil];exact hb,Nat.le_refl _,fun _ _ _=>rfl⟩
 have hbq:Nat.beq M.length 0=false:=by
  cases M with
  |nil=>exact absurd rfl hm
  |cons _ _=>rfl
 rw[hbq]
 rcases hb with⟨rfl,rfl⟩|⟨q,t,m,z,w,rfl,h1,h2,h3,h4,h5,h6⟩
 · refine⟨.slice h.next 0 M.length sz false,h.new (.row (Ai M.flatten 0 .e) (Nat.mul M.length sz) 0 e false),rfl,.inr ⟨h.next,Ai M.flatten 0 .e,Nat.mul M.length sz,0,false,rfl,hlo,by rw[Be];omega,Ay _ _,Nat.le_refl _,Nat.zero_le _,?_⟩,by rw[Be];omega,fun c hc _=>Dd hc⟩
   have:=Mv.Bgv (t:=.e) (Mv.nil (sz:=sz) (o:=0)) hM
   rwa [show([]:List (List AV)).length*sz=0 by simp] at this
 · have e1:Ip e sz (.slice q 0 L.length sz false) M.length M.flatten h=(Bool.rec none (Te e q 0 L.length M.length sz M.flatten h (Dx (h.at q))) (Nat.beq sz sz):Option (AV×H)):=rfl
   show∃v' h',Ip e sz (.slice q 0 L.length sz false) M.length M.flatten h=some (v',h')∧_
   rw[e1,Nat.beq_refl,h3]
   show∃v' h',(Bool.rec none (some (.slice h.next 0 (Nat.add L.length M.length) sz false,(h.put q .dead).new (.row (Ai M.flatten (Nat.add 0 (Nat.mul L.length sz)) t) (Nat.add 0 (Nat.mul (Nat.add L.length M.length) sz)) z e false)))
    (Ah (Ah (Nat.beq e e) (Nat.beq 0 0)) (Ah (Nat.ble (Nat.add 0 (Nat.mul L.length sz)) m) (Nat.ble z (Nat.add 0 (Nat.mul L.length sz))))):Option (AV×H))=some (v',h')∧_
   have a1:Nat.add 0 (Nat.mul L.length sz)=L.length*sz:=Nat.zero_add _
   rw[a1,Nat.beq_refl,Nat.ble_eq_true_of_le h4,Nat.ble_eq_true_of_le h5]
   refine⟨_,_,rfl,.inr ⟨h.next,_,_,z,false,?_,hlo,?_,Ay (h.put q .dead) _,?_,?_,h6.Bgv hM⟩,?_,fun c hc hne=>?_⟩
   · rw[List.length_append];rfl
   · show h.next.nat<(P.succ h.next).nat
     rw[P.Dn];omega
   · rw[List.length_append]
     show(L.length+M.length)*sz≤0+(L.length+M.length)*sz
     omega
   · rw[List.length_append,Nat.add_mul];omega
   · show h.next.nat≤(P.succ h.next).nat
     rw[P.Dn];omega
   · have hcq:c≠q:=fun e'=>hne _ _ _ _ (by rw[e'])
     rw[Dd (show c.nat<(h.put q .dead).next.nat from hc),Cd hcq]
theorem Cv.own{e:TypeId}{sz lo:Nat}{h:H}{v:AV}{L:List (List AV)}(hb:Cv e sz lo h v L){c:P}(hh:c.nat<lo∨∀t m z w,h.at c≠.row t m z e w):∀o n z b,v≠.slice c o n z b:=fun o n z b ev=>by
 rcases hb with⟨rfl,_⟩|⟨q,t,m,z',w,rfl,h1,h2,h3,_⟩
 · cases ev
 · cases ev
   rcases hh with hh|hh
   · omega
   · exact hh _ _ _ _ h3
theorem Ama{e:TypeId}{sz lo:Nat}{ei:TI}{h:H}{v x:AV}{L M:List (List AV)}(hb:Cv e sz lo h v L)(hx:Bv h sz x=some (M.length,M.flatten))(hM:∀c∈M,c.length=sz)(hsz:ei.size=sz)(hf:Cf ei (L.length+M.length)=true)(hlo:lo≤h.next.nat){k:KV}(hk:∀v' h',Cv e sz lo h' v' (L++M)→KpS e lo h h'→k v' h'):
 oK (Dc (some false) v x h e ei) k:=by
 obtain⟨v',h',a,b,c,d⟩:=Bgt hb hx hM hsz hf hlo
 rw[a,Ae]
 exact hk _ _ b ⟨c,fun p hp hh=>d p hp (hb.own hh)⟩
theorem Ao8{e:TypeId}{sz lo:Nat}{ei:TI}{h h0:H}{q:P}{v:AV}{L:List (List AV)}{ds:List AV}{t:Tm}(hb:Cv e sz lo h v L)(hd:ds.length=sz)(hsz:ei.size=sz)(hf:Cf ei (L.length+1)=true)(hlo:lo≤h.next.nat)(hh:h0.new (.row (Ai ds 0 t) sz 0 e true)=h)(hq:q=h0.next){k:KV}(hk:∀v' h',Cv e sz lo h' v' (L++[ds])→KpS e lo h h'→k v' h'):
 oK (Dc (some false) v (.slice q 0 1 sz true) h e ei) k:=by
 subst hh hq
 refine Ama (M:=[ds]) hb (by rw[Afo hd];simp) (fun c hc=>by simp at hc;rw[hc];exact hd) hsz hf hlo hk
theorem Aaz{l:List AV}{K:Prop}(h:l≠[])(hk:K):chk (Nat.ble 1 (len l)) K:=by
 cases l with
 |nil=>exact absurd rfl h
 |cons x l=>
  rw[Di,show Nat.ble 1 (x::l).length=true from Nat.ble_eq_true_of_le (by simp)];exact hk
theorem AtP.newRow{h:H}{e:TypeId}{cs:List AV}:AtP (h.new (rowOf e cs)) h.next 0 cs:=by
 refine .row (Ai cs 0 .e) cs.length 0 e true ?_ (by omega) fun j hj=>?_
 · rw[Ay];unfold rowOf;rw[Di]
 · rw[Ar,if_pos (by omega),List.getD_eq_getElem?_getD,List.getElem?_eq_getElem (by omega)]
   simp
theorem Zv{h:H}{e:TypeId}{zs cs:List AV}{c:Nat}{K:H→Prop}(hz:zs.length=c)(hc:cs.length=c)(h1:1≤c)(hk:∀h',Exh h h'→h.next.nat<h'.next.nat→AtP h' h.next 0 cs→K h'):stn c (.ptr h.next 0) (.agg cs) (h.new (rowOf e zs)) K:=by
 have ha:(h.new (rowOf e zs)).at h.next=.row (Ai zs 0 .e) c 0 e true:=by
  rw[Ay];unfold rowOf;rw[Di,hz]
 refine Tp ha (Nat.le_refl _) hc h1 (by omega) (hk _ ⟨by rw[Dl,Be];omega,fun d hd=>?_⟩ (by rw[Dl,Be];omega) (.row _ c 0 e true (Bk _ _ _) (by omega) fun j hj=>?_))
 · rw[Cd (fun e'=>by subst e';omega),Dd hd]
 · rw[Ar,if_pos (by omega),List.getD_eq_getElem?_getD,List.getElem?_eq_getElem (by omega)]
   simp
theorem AtP.Atq{h:H}{q:P}{o j c:Nat}{cs:List AV}{K:AV→Prop}(ha:AtP h q o cs)(hj:j+c≤cs.length)(hk:K (.agg ((cs.drop j).take c))):Go.Den.ldn c (.ptr q (o+j)) h K:=by
 obtain⟨f,m,h1,h2,h3⟩:=ha
 refine AtP.ldn (cs:=(cs.drop j).take c) ⟨f,m,h1,by rw[List.length_take,List.length_drop];omega,fun i hi=>?_⟩ (by rw[List.length_take,List.length_drop];omega) hk
 rw[List.length_take,List.length_drop] at hi
 rw[Nat.add_assoc,h3 (j+i) (by omega),List.getElem_take,List.getElem_drop]
theorem AtP.ext{h h':H}{q:P}{o:Nat}{cs:List AV}(ha:AtP h q o cs)(hx:Exh h h')(hq:q.nat<h.next.nat):AtP h' q o cs:=ha.frame (hx.2 q hq)
theorem Aaw{v:AV}{A:Prop}(h:v=.Ad∨∃b o n z t,v=.slice b o n z t):eqC v v A=A:=by
 rcases h with rfl|⟨b,o,n,z,t,rfl⟩
 · rfl
 · show Bool.rec Aj A (Ah (Ah (P.beq b b) (Nat.beq o o)) (Ah (Ah (Nat.beq n n) (Nat.beq z z)) (Ajr t t)))=A
   rw[P.beq_refl,Nat.beq_refl,Nat.beq_refl,Nat.beq_refl,Aqu]
   rfl
def Wo(lo:Nat)(h:H)(b:P)(l:List UInt8):Prop:=∃t,h.at b=.row t 2 0 149 true∧b.nat<h.next.nat∧(Bh t 0=.Fq∨Bh t 0=.ptr b 0)∧Cv TB 1 lo h (Bh t 1) (eb l)∧(l=[]→Bh t 1=.Ad)
def FrB(lo:Nat)(b:P)(h h':H):Prop:=h.next.nat≤h'.next.nat∧∀c,c.nat<h.next.nat→c≠b→(c.nat<lo∨∀t m z w,h.at c≠.row t m z TB w)→h'.at c=h.at c
theorem Wo.new(lo:Nat)(h:H):Wo lo (h.new Wr) h.next []:=
 ⟨Ai [.Fq,.Ad] 0 .e,Ay _ _,by rw[Be];omega,.inl (by kernel_rfl),.inl ⟨by kernel_rfl,rfl⟩,fun _=>by kernel_rfl⟩
theorem Wo.ext{lo:Nat}{h h':H}{b:P}{l:List UInt8}(hb:Wo lo h b l)(hx:Exh h h'):Wo lo h' b l:=by
 obtain⟨t,a1,a2,a3,a4,a5⟩:=hb
 exact⟨t,by rw[hx.2 b a2];exact a1,by have:=hx.1;omega,a3,a4.ext hx,a5⟩
theorem Azy(l:List UInt8):(eb l).flatten=ubs l:=by
 induction l with
 |nil=>rfl
 |cons x l ih=>show[ub x]++(eb l).flatten=ub x::ubs l;rw[ih];rfl
theorem A55(l m:List UInt8):eb (l++m)=eb l++eb m:=by unfold eb;rw[List.map_append]
theorem A56(l:List UInt8):∀c∈eb l,c.length=1:=fun c hc=>by
 obtain⟨x,_,rfl⟩:=List.mem_map.1 hc;rfl
theorem Awq{e:TypeId}{sz lo:Nat}{ei:TI}{h:H}{v x:AV}{L:List (List AV)}(hb:Cv e sz lo h v L)(hx:Bv h sz x=some (0,[]))(hsz:ei.size=sz)(hf:Cf ei (L.length+0)=true):Dc (some false) v x h e ei=some (v,h):=by
 have hl:Em v=L.length:=by rcases hb with⟨rfl,rfl⟩|⟨_,_,_,_,_,rfl,_⟩<;>rfl
 have hok:Eu v=true:=by rcases hb with⟨rfl,rfl⟩|⟨_,_,_,_,_,rfl,_⟩<;>rfl
 show(Option.rec none (fun p=>Bool.rec none (Bool.rec (Ip e ei.size v p.1 p.2 h) (some (v,h)) (Nat.beq p.1 0)) (Ah (Eu v) (Cf ei (Nat.add (Em v) p.1)))) (Bv h ei.size x):Option (AV×H))=_
 rw[hsz,hx]
 show(Bool.rec none (some (v,h)) (Ah (Eu v) (Cf ei (Nat.add (Em v) 0))):Option (AV×H))=_
 rw[hl,hok,show Cf ei (Nat.add L.length 0)=true from hf];rfl
theorem Blj{lo:Nat}{h:H}{b:P}{l m:List UInt8}{k:KV}(hb:Wo lo h b l)(hlo:lo≤h.next.nat)(hl:l.length+m.length≤1099511627776)(hk:∀v h',Wo lo h' b (l++m)→FrB lo b h h'→k v h'):W1 (.func 61) [.ptr b 0,S m] h k:=by
 obtain⟨t,ha,hn,h0,hbuf,hnil⟩:=hb
 refine w61 (n:=1) Bl (g61 ?_)
 unfold Ahi
 refine A0n ha h0 fun h1 t1 a1 p1 q1 n1 f1=>?_
 rw[Bj,Ae,Ev]
 refine Cz a1 (by decide) ?_
 have n1':h1.next.nat=h.next.nat:=by rw[n1]
 have hbuf1:Cv TB 1 lo h1 (Bh t1 1) (eb l):=by
  rw[q1]
  exact hbuf.frame (by rw[n1];exact Nat.le_refl _) fun c hc _ tt mm z w hh=>f1 c fun e'=>by subst e';rw[ha] at hh;cases hh
 have hn1:b.nat<h1.next.nat:=by rw[n1];exact hn
 rw[Bgw]
 have fin:∀v' h3,Cv TB 1 lo h3 v' (eb (l++m))→(l++m=[]→v'=.Ad)→KpS TB lo h1 h3→oK (Ck (.ptr b 0) h3) fun v9 h10=>Am 1 v9 fun v11=>st1 v11 v' h10 fun h12=>k (.tuple [.int .i64 (Int.ofNat m.length),.He]) h12:=fun v' h3 b3 hv x3=>by
  have x31:=x3.1
  rw[Bj,Ae,Ev]
  have a3:h3.at b=.row t1 2 0 149 true:=by rw[x3.2 b hn1 (.inr fun t' m' z w hh=>by rw[a1] at hh;cases hh)];exact a1
  refine Ph a3 (Nat.zero_le _) (by decide) b3.one ?_
  have e1:Bh (Ai [v'] 1 t1) 1=v':=by rw[Ar];simp
  refine hk _ _ ⟨_,Bk _ _ _,by rw[Dl];omega,.inr (by rw[Ar];simp[p1]),?_,fun e=>by rw[e1];exact hv e⟩ ⟨by rw[Dl];omega,fun c hc hcb hh=>?_⟩
  · rw[e1]
    exact b3.frame (Nat.le_refl _) fun c hc _ tt mm z w hh=>Cd fun e'=>by subst e';rw[a3] at hh;cases hh
  · rw[Cd hcb,x3.2 c (by rw[n1];exact hc) (hh.imp id fun hh t' m' z w=>by rw[f1 c hcb];exact hh t' m' z w),f1 c hcb]
 by_cases hm:m=[]
 · subst hm
   rw[Awq hbuf1 (by rw[Ri];rfl) rfl (Aiy (by rw[Lw];simpa using hl)),Ae]
   exact fin _ _ (by rw[List.append_nil];exact hbuf1) (fun e=>by rw[q1];exact hnil (by simpa using e)) .refl
 · refine Ama (M:=eb m) hbuf1 (by rw[Ri,Lw,Azy]) (A56 m) rfl (Aiy (by rw[Lw,Lw];exact hl)) (by rw[n1];exact hlo) fun v' h3 b3 x3=>?_
   exact fin v' h3 (by rw[A55];exact b3) (fun e=>absurd (List.append_eq_nil_iff.1 e).2 hm) x3
theorem Bli{lo:Nat}{h:H}{b:P}{l:List UInt8}{k:KV}(hb:Wo lo h b l)(hl:l.length≤9223372036854775807)(hk:∀h',KpS TB lo h h'→k (S l) h'):W1 (.func 63) [.ptr b 0] h k:=by
 obtain⟨t,ha,hn,h0,hbuf,hnil⟩:=hb
 refine w63 (n:=1) Bl (g63 ?_)
 unfold Ahh
 rw[Bj,Ae,Ev]
 refine Cz ha (by decide) ?_
 by_cases hne:l=[]
 · subst hne
   have e:=hnil rfl
   rw[e,Ayc]
   rw[show(Fj AV.Ad h:Option (AV×H))=some (.Fq,h) from rfl,Ae,Bj,Ae,Ev]
   refine Cz ha (by decide) ?_
   rw[e]
   show oK (Aq env .unsafeString [225,3] [.Fq,.int .i64 (Int.ofNat 0)] h) _
   rw[Aq9,show(Jq env .Fq (Bc (.int .i64 (Int.ofNat 0))) h:Option (AV×H))=some (.str 0 0,h) from rfl,Ae]
   exact hk h .refl
 · rcases hbuf with⟨e,e2⟩|⟨q,t1,m,z,w,e,h1,h2,h3,h4,h5,h6⟩
   · exfalso
     cases l with
     |nil=>exact hne rfl
     |cons x l=>exact absurd e2 (by unfold eb;simp)
   rw[Lw] at e h4 h5
   have hpos:l.length=(l.length-1)+1:=by
    cases l with
    |nil=>exact absurd rfl hne
    |cons _ _=>simp
   have hcells:Dy t1 l:=fun i hi=>by
    have:=(h6 i (by rw[Lw];exact hi)).2 0 (by rw[Agd hi];exact Nat.one_pos)
    simp only[Agd hi,List.getElem_cons_zero] at this
    rw[←this]
    congr 1;omega
   have e1:(Fj (.slice q 0 l.length 1 false) h:Option (AV×H))=some (.ptr q 0,h):=by rw[hpos];rfl
   rw[e,Ayc,e1,Ae,Bj,Ae,Ev]
   refine Cz ha (by decide) ?_
   rw[e,Li,Aq9]
   have e2:Jq env (.ptr q 0) (Bc (.int .i64 (Int.ofNat l.length))) h=(Bool.rec (Ab4 env q 0 l.length h (Dx (h.at q))) (some (.str 0 0,h)) (Nat.beq l.length 0):Option (AV×H)):=rfl
   have e3:Nat.beq l.length 0=false:=by rw[hpos];rfl
   rw[e2,e3,h3]
   show oK (Bool.rec none (Nb (h.put q (.row t1 m (Nat.add m 1) TB w)) (Et (Cq t1 l.length 0))) (Ah (isByte env TB) (Ah (Nat.ble (Nat.add 0 l.length) m) (Nat.ble l.length (intMax .i64)))):Option (AV×H)) _
   rw[isB,Nat.ble_eq_true_of_le (show Nat.add 0 l.length≤m by show 0+l.length≤m;omega),Nat.ble_eq_true_of_le (show l.length≤intMax .i64 from hl),hcells.get,Vg]
   show oK (some (strOf (l.map (·.toNat)),h.put q (.row t1 m (Nat.add m 1) TB w)):Option (AV×H)) _
   rw[Aj8,Ae]
   refine hk _ ⟨Nat.le_refl _,fun c hc hh=>Cd fun e'=>?_⟩
   subst e'
   rcases hh with hh|hh
   · omega
   · exact hh _ _ _ _ h3
end Go.Den
