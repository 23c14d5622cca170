/-
 Proof.
-/
import Derived.Test.YtcnmehbkpaoolaaGreatDoorL3
import Derived.Test.YtcnmehbkpaoolaaGreatDoorConz
import Derived.Test.YtcnmehbkpaoolaaGreatDoorEvl
noncomputable section
namespace Go.Den
open Go.RowKit
set_option maxRecDepth 100000
def usV(s:List UInt8):AV:=match Iz s with
 |some t=>.tuple [S t,.bool true]
 |none=>.tuple [S s,.bool false]
theorem c40(s:List UInt8){h:H}{k:KV}(hk:k (usV s) h):W1 (.func 40) [S s] h k:=by
 refine w40 (n:=2) Bs (g40 ?_)
 have key:∀b,b=Jg s→(r40 W1 k 1).a1 s.length (enc s) s.length (enc s) b h:=fun b hb=>by
  refine Bb8 ?_
  unfold Am4
  unfold usV Iz at hk
  rw[Hh (t:=[60,58]) (l:=2) (c:=14908) rfl rfl,Hh (t:=[58,62]) (l:=2) (c:=15930) rfl rfl,Hh (t:=[60,37]) (l:=2) (c:=9532) rfl rfl,Hh (t:=[37,62]) (l:=2) (c:=15909) rfl rfl]
  refine Ap (fun e=>?_) (fun e=>?_)
  · have hh:Jg s=true:=by rw[←hb];exact e
    have q:s=[35]∨s=[37,58]∨s=[35,35]∨s=[37,58,37,58]:=by
     unfold Jg at hh
     simp only[Bool.or_eq_true,decide_eq_true_eq] at hh
     rcases hh with(q|q)|(q|q)
     · exact .inl q
     · exact .inr (.inl q)
     · exact .inr (.inr (.inl q))
     · exact .inr (.inr (.inr q))
    rcases q with rfl|rfl|rfl|rfl<;>exact hk
  · have hh:¬Jg s=true:=by rw[←hb,e];decide
    refine Ap (fun e=>?_) (fun e=>?_)
    · rw[if_pos (of_decide_eq_true e)] at hk;exact hk
    rw[if_neg (of_decide_eq_false e)] at hk
    refine Ap (fun e=>?_) (fun e=>?_)
    · rw[if_pos (of_decide_eq_true e)] at hk;exact hk
    rw[if_neg (of_decide_eq_false e)] at hk
    refine Ap (fun e=>?_) (fun e=>?_)
    · rw[if_pos (of_decide_eq_true e)] at hk;exact hk
    rw[if_neg (of_decide_eq_false e)] at hk
    refine Ap (fun e=>?_) (fun e=>?_)
    · rw[if_pos (of_decide_eq_true e)] at hk;exact hk
    rw[if_neg (of_decide_eq_false e),if_neg hh] at hk
    exact hk
 unfold Am5
 rw[Hh (t:=[35]) (l:=1) (c:=35) rfl rfl,Hh (t:=[35,35]) (l:=2) (c:=8995) rfl rfl,Hh (t:=[37,58]) (l:=2) (c:=14885) rfl rfl,Hh (t:=[37,58,37,58]) (l:=4) (c:=975518245) rfl rfl]
 refine Ap (fun e=>?_) (fun e1=>?_)
 · exact key _ (by unfold Jg;rw[e];simp)
 refine Ap (fun e=>?_) (fun e2=>?_)
 · exact key _ (by unfold Jg;rw[e];simp)
 refine Ap (fun e=>?_) (fun e3=>?_)
 · exact key _ (by unfold Jg;rw[e];simp)
 · exact key _ (by unfold Jg;rw[e1,e2,e3];simp)
def Aad(c:UInt8):Bool:=decide (c=34)||decide (c=39)
def Acg(s:List UInt8):List UInt8:=if s.any Aad=true then s.takeWhile (fun c=>!Aad c) else[]
theorem Aho{s:List UInt8}{i:Nat}(hi:i<s.length)(h0:∀c∈s.take i,Aad c=false)(h1:Aad s[i]=true):Acg s=s.take i:=by
 have e:s=s.take i++s[i]::s.drop (i+1):=by rw[←List.drop_eq_getElem_cons hi,List.take_append_drop]
 unfold Acg
 rw[if_pos (List.any_eq_true.2 ⟨s[i],List.getElem_mem hi,h1⟩)]
 have key:∀(a b:List UInt8)(c:UInt8),(∀x∈a,Aad x=false)→Aad c=true→(a++c::b).takeWhile (fun c=>!Aad c)=a:=by
  intro a
  induction a with
  |nil=>intro b c _ hc;rw[List.nil_append,List.takeWhile_cons,hc];rfl
  |cons x a ih=>
   intro b c ha hc
   rw[List.cons_append,List.takeWhile_cons,ha x (by simp)]
   show x::_=_
   rw[ih b c (fun y hy=>ha y (List.mem_cons_of_mem _ hy)) hc]
 have:=key (s.take i) (s.drop (i+1)) s[i] h0 h1
 rw[←e] at this
 exact this
theorem A1c{s:List UInt8}(hl:s.length≤1000000){h:H}{k:KV}(hk:k (S (Acg s)) h):∀(n i:Nat),s.length-i<n→i≤s.length→(∀c∈s.take i,Aad c=false)→(r42 W1 k n).a1 s.length (enc s) (Int.ofNat i) h
 |0,_,hn,_,_=>absurd hn (Nat.not_lt_zero _)
 |n+1,i,hn,hi,h0=>by
  refine Bb6 ?_
  unfold Am0
  rw[ilt]
  refine Ap (fun e=>?_) (fun e=>?_)
  · have e:i<s.length:=of_decide_eq_true e
    rw[Aq]
    refine Bi e ?_
    refine Ma (b:=decide (s[i]=39)) (fun k' hk'=>?_) ?_
    · rw[Aq]
      refine Bi e ?_
      rw[toNat_eq _ 39 (by decide)];exact hk'
    rw[toNat_eq _ 34 (by decide)]
    refine Ap (fun q=>?_) (fun q=>?_)
    · rw[Aho e h0 q] at hk
      rw[Aq]
      exact Wl hi hk
    · rw[Ea,Co (by omega),Al]
      refine A1c hl hk n (i+1) (by omega) e fun c hc=>?_
      rw[List.take_succ_eq_append_getElem e] at hc
      rcases List.mem_append.1 hc with hc|hc
      · exact h0 c hc
      · rw[List.mem_singleton] at hc;subst hc;exact q
  · have e:i=s.length:=by have:=of_decide_eq_false e;omega
    subst e
    rw[List.take_length] at h0
    unfold Acg at hk
    rw[if_neg] at hk
    · exact hk
    · intro q
      obtain⟨c,hc,hq⟩:=List.any_eq_true.1 q
      rw[h0 c hc] at hq;cases hq
theorem c42{s:List UInt8}(hl:s.length≤1000000){h:H}{k:KV}(hk:k (S (Acg s)) h):W1 (.func 42) [S s] h k:=by
 refine w42 (n:=s.length+2) Bs (g42 ?_)
 unfold Am1
 exact A1c hl hk _ 0 (by omega) (Nat.zero_le _) fun c hc=>by rw[List.take_zero] at hc;cases hc
theorem Ahn{s:List UInt8}(h:(Ah s).2=true):Acg s=(Ah s).1:=by
 obtain⟨h1,h2⟩:=Ir s De h
 have hp:∀c∈(Ah s).1,Aad c=false:=by
  have key:∀ps,(∀p∈ps,∀c∈p,Aad c=false)→∀c∈(Bw ps s).1,Aad c=false:=by
   intro ps
   induction ps with
   |nil=>intro _ c hc;cases hc
   |cons p ps ih=>
    intro hps
    unfold Bw
    split
    · exact hps p (by simp)
    · exact ih fun q hq=>hps q (List.mem_cons_of_mem _ hq)
  exact key De (by decide)
 have h1:s.take (Ah s).1.length=(Ah s).1:=h1
 have h2:Gs (s.drop (Ah s).1.length)=true:=h2
 have hlt:(Ah s).1.length<s.length:=by
  rcases Nat.lt_or_ge (Ah s).1.length s.length with q|q
  · exact q
  · rw[List.drop_of_length_le q] at h2;cases h2
 rw[←h1] at hp
 rw[Aho hlt hp,h1]
 rw[List.drop_eq_getElem_cons hlt] at h2
 exact h2
theorem A1b{h:H}{v:AV}{row:List (List UInt8)}{s:List UInt8}{k:KV}(hr:Rd 1 h v (es row))(hl:row.length≤1000000)(hk:k (.bool (decide (s∈row))) h):∀(n i:Nat),row.length-i<n→i≤row.length→s∉row.take i→(r44 W1 k n).a1 v s.length (enc s) (Int.ofNat i) h
 |0,_,hn,_,_=>absurd hn (Nat.not_lt_zero _)
 |n+1,i,hn,hi,h0=>by
  refine Bb5 ?_
  unfold Amy
  rw[hr.len,Aux,ilt]
  refine Ap (fun e=>?_) (fun e=>?_)
  · have e:i<row.length:=of_decide_eq_true e
    rw[Aq]
    refine hr.str (i:=i) e ?_
    rw[Bp,Cq]
    refine Ap (fun q=>?_) (fun q=>?_)
    · have q:=of_decide_eq_true q
      rw[decide_eq_true (show s∈row by rw[←q];exact List.getElem_mem e)] at hk
      exact hk
    · have q:=of_decide_eq_false q
      rw[Ea,Co (by omega),Al]
      refine A1b hr hl hk n (i+1) (by omega) e fun hm=>?_
      rw[List.take_succ_eq_append_getElem e] at hm
      rcases List.mem_append.1 hm with hm|hm
      · exact h0 hm
      · rw[List.mem_singleton] at hm;exact q hm.symm
  · have e:i=row.length:=by have:=of_decide_eq_false e;omega
    subst e
    rw[List.take_length] at h0
    rw[decide_eq_false h0] at hk
    exact hk
def L45:List (Nat×AV):=[(0,(.str 4 1869903201)),(1,(.str 5 461195539042)),(2,(.str 4 1702060387)),(3,(.str 4 1918986339)),(4,(.str 5 500152823651)),(5,(.str 8 7310870969309884259)),(6,(.str 7 32770348699510116)),(7,(.str 2 28516)),(8,(.str 6 111516182736740)),(9,(.str 4 1702063205)),(10,(.str 4 1836412517)),(11,(.str 6 121437607458917)),(12,(.str 5 499850898534)),(13,(.str 3 7499622)),(14,(.str 4 1869901671)),(15,(.str 2 26217)),(16,(.str 6 111524889521769)),(17,(.str 3 7630441)),(18,(.str 4 1735290732)),(19,(.str 8 8243122732010005874)),(20,(.str 8 8386662871394903410)),(21,(.str 6 121437875889522)),(22,(.str 5 500136110195)),(23,(.str 6 110386806745459)),(24,(.str 6 112628629924211)),(25,(.str 6 109304575259763)),(26,(.str 6 127970521019507)),(27,(.str 6 114776364119923)),(28,(.str 7 28821929497491828)),(29,(.str 5 474315583093)),(30,(.str 8 7234309766870429301)),(31,(.str 4 1684631414)),(32,(.str 8 7308332243887091574)),(33,(.str 5 435610544247)),(34,(.str 8 8314047777532035423)),(35,(.str 8 7381239704712921439)),(36,(.str 7 27981941436596575)),(37,(.str 5 465726030431)),(38,(.str 8 8675459487327273823)),(39,(.str 8 7163382462278879071)),(40,(.str 10 573516293916391814023519)),(41,(.str 9 2037389474379710025311)),(42,(.str 14 2361822922107549468356405349339999)),(43,(.str 13 8586781807331162464568209855583))]
def T45:Tm:=Option.rec .e (fun t=>t) (Uw (Sv 1) 44 L45 (Aj (Kh [.str 0 0] 44) 0 .e))
theorem b45(h:H):Au env 44 (fun e ei=>Ak 44 L45 h e ei)=some (.slice h.next 0 44 1 true,h.new (.row T45 44 0 9 true)):=by kernel_rfl
theorem Bjc:Da T45 44 0=kws.map fun s=>S s:=by kernel_rfl
theorem c21(s:List UInt8){h:H}{k:KV}(hk:∀h',Exh h h'→k (.bool (decide (s∈kws))) h'):W1 (.func 21) [S s] h k:=by
 refine w21 (n:=1) Bs (g21 ?_)
 unfold Ans
 refine w45 (n:=1) Bs (g45 ?_)
 unfold Amx
 refine(b45 h).symm▸?_
 rw[Ad]
 have hr:=Baj (e:=9) Bjc (by decide) h
 have x1:Exh h (h.new (.row T45 44 0 9 true)):=.new
 refine w44 (n:=50) Bs (g44 ?_)
 unfold Amz
 refine A1b hr (by decide) ?_ 49 0 (by decide) (Nat.zero_le _) (by simp)
 rw[Bt]
 exact hk _ x1
theorem A1i{h:H}{v:AV}{L:List Dc}{k:KV}(hr:RdT h v L)(hs:∀x∈L,Sl x.sites)(hl:L.length≤1000000)(hk:∀b,(b=true→∀x∈L,x.text.length≤300)→k (.bool b) h):∀(n i:Nat),L.length-i<n→i≤L.length→(∀x∈L.take i,x.text.length≤300)→(r14 W1 k n).a1 v (Int.ofNat i) h
 |0,_,hn,_,_=>absurd hn (Nat.not_lt_zero _)
 |n+1,i,hn,hi,h0=>by
  refine Bcy ?_
  unfold Aob
  rw[hr.len,ilt]
  refine Ap (fun e=>?_) (fun e=>?_)
  · have e:i<L.length:=of_decide_eq_true e
    have hi':i<(L.map Dc.cells).length:=by rw[List.length_map];exact e
    have hc:(L.map Dc.cells)[i]=L[i].cells:=Gx e hi'
    have hR:=hr.rd e
    rw[Aq]
    refine hR.fld (j:=1) hi' (by rw[hc];show 1<8;decide) ?_
    simp only[hc]
    show asS (S L[i].text) _
    rw[Bp]
    have hlen:∃m,∀K:Nat→Prop,Gn L[i].sites K=K m:=by
     rcases hs _ (List.getElem_mem e) with q|⟨b,o,m,z,t,q⟩
     · exact⟨0,fun K=>by rw[q];rfl⟩
     · exact⟨m,fun K=>by rw[q];rfl⟩
    obtain⟨m,hm⟩:=hlen
    refine Ma (b:=decide (20<m)) (fun k' hk'=>?_) ?_
    · rw[Aq]
      refine hR.fld (j:=7) hi' (by rw[hc];show 7<8;decide) ?_
      simp only[hc]
      show Gn L[i].sites _
      rw[hm,ilt];exact hk'
    rw[ilt]
    refine Ap (fun q=>?_) (fun q=>?_)
    · exact hk false (fun q=>by cases q)
    · simp only[Bool.or_eq_false_iff,decide_eq_false_iff_not] at q
      rw[Ea,Co (by omega),Al]
      refine A1i hr hs hl hk n (i+1) (by omega) e fun x hx=>?_
      rw[List.take_succ_eq_append_getElem e] at hx
      rcases List.mem_append.1 hx with hx|hx
      · exact h0 x hx
      · rw[List.mem_singleton] at hx;subst hx;omega
  · have e:i=L.length:=by have:=of_decide_eq_false e;omega
    subst e
    rw[List.take_length] at h0
    exact hk true fun _=>h0
theorem c14{h:H}{v:AV}{L:List Dc}{m:Nat}{k:KV}(hr:RdT h v L)(hs:∀x∈L,Sl x.sites)(hm:m≤1000000)(hk:∀b,(b=true→L.length≤m∧∀x∈L,x.text.length≤300)→k (.bool b) h):W1 (.func 14) [v,.int .i64 (Int.ofNat m)] h k:=by
 refine w14 (n:=L.length+2) Bs (g14 ?_)
 unfold Aoc
 rw[hr.len,ilt]
 refine Ap (fun _=>hk false fun q=>by cases q) (fun e=>?_)
 have e:=of_decide_eq_false e
 exact A1i hr hs (by omega) (fun b hb=>hk b fun q=>⟨by omega,hb q⟩) _ 0 (by omega) (Nat.zero_le _) fun x hx=>by rw[List.take_zero] at hx;cases hx
theorem Adk(l c:Nat):Bg l c l c=true:=by
 show Ai (Nat.beq l l) (Nat.beq c c)=true
 rw[Nat.beq_refl,Nat.beq_refl];rfl
theorem Ta(a:Int):Ba a a=true:=by rw[Fx,beq_self_eq_true]
theorem Bi1(l c:Nat)(a b:Int):Jk env .neq 38 (.agg [.str l c,.int .i64 a,.int .i64 b]) (.agg [.str l c,.int .i64 a,.int .i64 b])=some (.bool false):=by
 have e:Jk env .neq 38 (.agg [.str l c,.int .i64 a,.int .i64 b]) (.agg [.str l c,.int .i64 a,.int .i64 b])=Ahz (Bool.rec (some false) (Bool.rec (some false) (Bool.rec (some false) (some true) (Ba b b)) (Ba a a)) (Bg l c l c)):=by kernel_rfl
 rw[e,Adk,Ta,Ta];rfl
theorem Bi0(l c:Nat)(a b:Int):Jk env .neq 48 (.agg [.int .i64 (.ofNat 19),.str l c,.int .i64 a,.int .i64 b]) (.agg [.int .i64 (.ofNat 19),.str l c,.int .i64 a,.int .i64 b])=some (.bool false):=by
 have e:Jk env .neq 48 (.agg [.int .i64 (.ofNat 19),.str l c,.int .i64 a,.int .i64 b]) (.agg [.int .i64 (.ofNat 19),.str l c,.int .i64 a,.int .i64 b])=Ahz (Option.rec none (fun q=>Bool.rec (some false) (some true) q) (Bool.rec (some false) (Bool.rec (some false) (Bool.rec (some false) (some true) (Ba b b)) (Ba a a)) (Bg l c l c):Option Bool)):=by kernel_rfl
 rw[e,Adk,Ta,Ta];rfl
theorem A1g{h:H}{v v':AV}{lo lo':Nat}{D:List DT}{k:KV}(ha:Ct 48 4 lo h v (D.map DT.cells))(hb:Ct 48 4 lo' h v' (D.map DT.cells))(hl:D.length≤1000000)(hk:k (.bool true) h):∀(n i:Nat),D.length-i<n→i≤D.length→(r19 W1 k n).a1 v v' (Int.ofNat i) h
 |0,_,hn,_=>absurd hn (Nat.not_lt_zero _)
 |n+1,i,hn,hi=>by
  refine Bcm ?_
  unfold Anu
  rw[ha.len,List.length_map,ilt]
  refine Ap (fun e=>?_) (fun _=>hk)
  have e:i<D.length:=of_decide_eq_true e
  have hi':i<(D.map DT.cells).length:=by rw[List.length_map];exact e
  have hc:(D.map DT.cells)[i]=D[i].cells:=List.getElem_map ..
  have hne:D.map DT.cells≠[]:=List.length_pos_iff.1 (by omega)
  rw[Aq]
  refine(ha.rd hne).all (i:=i) hi' (by rw[hc];rfl) ?_
  simp only[hc]
  rw[Aq]
  refine(hb.rd hne).all (i:=i) hi' (by rw[hc];rfl) ?_
  simp only[hc]
  show oV (Jk env .neq 48 (.agg [.int .i64 (.ofNat 19),S D[i].file,.int .i64 D[i].f,.int .i64 D[i].t]) (.agg [.int .i64 (.ofNat 19),S D[i].file,.int .i64 D[i].f,.int .i64 D[i].t])) _
  rw[Bi0,Ih,Bt]
  refine Cm rfl ?_
  rw[Ea,Co (by omega),Al]
  exact A1g ha hb hl hk n (i+1) (by omega) e
theorem c19{h:H}{v v':AV}{lo lo':Nat}{D:List DT}{k:KV}(ha:Ct 48 4 lo h v (D.map DT.cells))(hb:Ct 48 4 lo' h v' (D.map DT.cells))(hl:D.length≤1000000)(hk:k (.bool true) h):W1 (.func 19) [v,v'] h k:=by
 refine w19 (n:=D.length+2) Bs (g19 ?_)
 unfold Anv
 rw[ha.len,hb.len,Ld,Bj]
 refine Cm (by simp) ?_
 exact A1g ha hb hl hk _ 0 (by omega) (Nat.zero_le _)
theorem Bae{h:H}{p:P}{e:TypeId}{zs cs:List AV}{K:H→Prop}(hp:h.at p=rowOf e zs)(hz:zs.length=7)(hc:cs.length=7)(hk:∀h',h'.next=h.next→(∀c,c≠p→h'.at c=h.at c)→AtP h' p 0 cs→K h'):stn 7 (.ptr p 0) (.agg cs) h K:=by
 have hp:h.at p=.row (Aj zs 0 .e) zs.length 0 e true:=by rw[hp];unfold rowOf;rw[Dk]
 refine Tx hp (Nat.le_refl _) hc (by decide) (by omega) ?_
 refine hk _ rfl (fun c hc=>Cr hc) (.row _ _ _ _ _ (Bx _ _ _) (by omega) fun j hj=>?_)
 rw[Av,if_pos (by omega),List.getD_eq_getElem?_getD,show 0+j-0=j by omega,List.getElem?_eq_getElem hj];rfl
theorem Awk(x:CT):Aa4 4 (.agg x.cells) (.agg x.cells)=true:=by
 have e:Aa4 4 (.agg x.cells) (.agg x.cells)=allEq (Aa4 3) x.cells x.cells:=rfl
 rw[e]
 unfold CT.cells
 simp only[allEq,avI,avS]
 rfl
theorem A1h{hE:H}{v v':AV}{lo lo':Nat}{O:List CT}{k:KV}(ha:Ct 40 7 lo hE v (O.map CT.cells))(hb:Ct 103 7 lo' hE v' (O.map CT.cells))(hl:O.length≤1000000)(hk:∀h',Exh hE h'→k (.bool true) h'):∀(n i:Nat){h:H},O.length-i<n→i≤O.length→Exh hE h→(r18 W1 k n).a1 v v' (Int.ofNat i) h
 |0,_,_,hn,_,_=>absurd hn (Nat.not_lt_zero _)
 |n+1,i,h,hn,hi,x=>by
  refine Bcn ?_
  unfold Anw
  rw[(ha.ext x).len,List.length_map,ilt]
  refine Ap (fun e=>?_) (fun _=>hk h x)
  have e:i<O.length:=of_decide_eq_true e
  have hi':i<(O.map CT.cells).length:=by rw[List.length_map];exact e
  have hc:(O.map CT.cells)[i]=O[i].cells:=List.getElem_map ..
  have hne:O.map CT.cells≠[]:=List.length_pos_iff.1 (by omega)
  rw[Aq]
  refine((ha.ext x).rd hne).elem (i:=i) hi' fun q o hq _ ha1=>?_
  rw[hc] at ha1
  refine ha1.ldn rfl ?_
  rw[Aq]
  refine((hb.ext x).rd hne).elem (i:=i) hi' fun q2 o2 hq2 _ hb1=>?_
  rw[hc] at hb1
  refine hb1.ldn rfl ?_
  refine Dt ?_
  have y1:Exh h (h.new Aht):=.new
  have n1:h.next.nat<(h.new Aht).next.nat:=by rw[Bh];omega
  have p1:(h.new Aht).at h.next=Aht:=Ax _ _
  have ha2:=ha1.ext y1 hq
  have hb2:=hb1.ext y1 hq2
  generalize h.new Aht=h1 at y1 n1 p1 ha2 hb2 ⊢
  refine ha2.ldn rfl (Aiy (Awk _) ?_)
  refine hb2.ldn rfl (Aiy (Awk _) ?_)
  refine Dt ?_
  have y2:Exh h1 (h1.new Wy):=.new
  have n2:h1.next.nat<(h1.new Wy).next.nat:=by rw[Bh];omega
  have p2:(h1.new Wy).at h1.next=Wy:=Ax _ _
  have p1':(h1.new Wy).at h.next=Aht:=by rw[y2.2 _ n1];exact p1
  have ha3:=ha2.ext y2 (by omega)
  have hb3:=hb2.ext y2 (by omega)
  have y12:=y1.trans y2
  generalize h1.new Wy=h2 at y2 n2 p2 p1' ha3 hb3 y12 ⊢
  refine ha3.ldn rfl (Aiy (Awk _) ?_)
  refine hb3.ldn rfl (Aiy (Awk _) ?_)
  refine Bae (show h2.at h.next=rowOf 40 _ from p1') rfl rfl fun h3 m3 f3 a3=>?_
  have hne1:q2≠h.next:=fun e'=>by rw[e'] at hq2;exact absurd hq2 (Nat.lt_irrefl _)
  refine(hb3.frame (f3 q2 hne1)).ldn rfl (Aiy (Awk _) ?_)
  have hne2:h1.next≠h.next:=fun e'=>by rw[e'] at n1;exact absurd n1 (Nat.lt_irrefl _)
  refine Bae (show h3.at h1.next=rowOf 103 _ by rw[f3 _ hne2];exact p2) rfl rfl fun h4 m4 f4 b4=>?_
  have a4:AtP h4 h.next 0 O[i].cells:=a3.frame (f4 _ fun e'=>hne2 e'.symm)
  have x4:Exh hE h4:=by
   have xn:=x.trans y12
   refine⟨by rw[m4,m3];exact xn.1,fun c hc=>?_⟩
   have c1:c≠h.next:=fun e'=>by rw[e'] at hc;have:=x.1;omega
   have c2:c≠h1.next:=fun e'=>by rw[e'] at hc;have:=(x.trans y1).1;omega
   rw[f4 c c2,f3 c c1,xn.2 c hc]
  rw[An]
  refine a4.ld1 (j:=0) (by show 0<7;decide) ?_
  show asI .i64 (.int .i64 (.ofNat O[i].kind)) _
  rw[Bu,An]
  refine b4.ld1 (j:=0) (by show 0<7;decide) ?_
  show asI .i64 (.int .i64 (.ofNat O[i].kind)) _
  rw[Bu]
  refine Jp (fun _=>?_) (fun e'=>by rw[Ta] at e';cases e')
  rw[An]
  refine a4.ld1 (j:=1) (by show 1<7;decide) ?_
  show asS (S O[i].text) _
  rw[Bp,An]
  refine b4.ld1 (j:=1) (by show 1<7;decide) ?_
  show asS (S O[i].text) _
  rw[Bp]
  refine Jp (fun _=>?_) (fun e'=>by rw[Adk] at e';cases e')
  rw[An]
  refine a4.Aqk (j:=2) (by show 2+3≤7;decide) ?_
  rw[An]
  refine b4.Aqk (j:=2) (by show 2+3≤7;decide) ?_
  show oV (Jk env .neq 38 (.agg [S O[i].file,.int .i64 O[i].f,.int .i64 O[i].t]) (.agg [S O[i].file,.int .i64 O[i].f,.int .i64 O[i].t])) _
  rw[Bi1,Ih,Bt]
  refine Jp (fun _=>?_) (fun e'=>by cases e')
  rw[An]
  refine a4.ld1 (j:=5) (by show 5<7;decide) ?_
  show asI .i64 (.int .i64 (.ofNat O[i].frm)) _
  rw[Bu,An]
  refine b4.ld1 (j:=5) (by show 5<7;decide) ?_
  show asI .i64 (.int .i64 (.ofNat O[i].frm)) _
  rw[Bu]
  refine Jp (fun _=>?_) (fun e'=>by rw[Ta] at e';cases e')
  rw[An]
  refine a4.ld1 (j:=6) (by show 6<7;decide) ?_
  show asI .i64 (.int .i64 (.ofNat O[i].cnt)) _
  rw[Bu,An]
  refine b4.ld1 (j:=6) (by show 6<7;decide) ?_
  show asI .i64 (.int .i64 (.ofNat O[i].cnt)) _
  rw[Bu]
  refine Cm (by rw[Ta];rfl) ?_
  rw[Ea,Co (by omega),Al]
  exact A1h ha hb hl hk n (i+1) (by omega) e x4
theorem c18{h:H}{v v':AV}{lo lo':Nat}{O:List CT}{k:KV}(ha:Ct 40 7 lo h v (O.map CT.cells))(hb:Ct 103 7 lo' h v' (O.map CT.cells))(hl:O.length≤1000000)(hk:∀h',Exh h h'→k (.bool true) h'):W1 (.func 18) [v,v'] h k:=by
 refine w18 (n:=O.length+2) Bs (g18 ?_)
 unfold Anx
 rw[ha.len,hb.len,Ld,Bj]
 refine Cm (by simp) ?_
 exact A1h ha hb hl hk _ 0 (by omega) (Nat.zero_le _) .refl
end Go.Den
