/-
 Proof.
-/
import Derived.Test.YtheajahjkmfeaaaGreatDoorIter
import Derived.Test.YtheajahjkmfeaaaGreatDoorByt1
import Derived.Sort.Walk0
import Derived.Test.YtheajahjkmfeaaaGreatDoorRunD
import Derived.KernelRfl
namespace Go.Den
open Go.RowKit
set_option maxRecDepth 100000
abbrev sv(b:List UInt8):AV:=.str b.length (enc b)
theorem Bdd{μ:Mu}{x:AV}{v:Value}(hs:Ad8 x=true)(h:VR μ x v):∃b:List UInt8,v=Proofs.encStr b∧x=sv b∧b.length≤1000000:=by
 cases x<;>try cases hs
 obtain⟨s,rfl,h1,h2⟩:=h
 have hl:s.data.toList.length=s.size:=Array.length_toList
 refine⟨s.data.toList,by simp,?_,?_⟩
 · rw[h1,h2,←hl]
 · rw[hl,←h1];exact Nat.le_of_ble_eq_true hs
theorem Bcq{μ:Mu}(b:List UInt8):VR μ (sv b) (Proofs.encStr b):=⟨⟨b.toArray⟩,rfl,by simp[ByteArray.size],by simp⟩
theorem A7v(a b:List UInt8):ltV (sv a) (sv b)=decide (a<b):=by
 show ltS a.length (enc a) b.length (enc b)=_
 unfold ltS
 rw[Ho,Ho,Td,Proofs.bytesLess_eq]
def Ab9(x:List UInt8):List (List UInt8)→List (List UInt8)
 |[]=>[x]
 |y::r=>if x<y then x::y::r else y::Ab9 x r
def Qk:List (List UInt8)→List (List UInt8)
 |[]=>[]
 |x::l=>Ab9 x (Qk l)
theorem Ap1(x:List UInt8):∀l:List (List UInt8),A06 (sv x) (l.map sv)=(Ab9 x l).map sv
 |[]=>rfl
 |y::l=>by
  show(Bool.rec (sv y::A06 (sv x) (l.map sv)) (sv x::sv y::l.map sv) (ltV (sv x) (sv y)):List AV)=_
  rw[A7v,Ap1 x l]
  have e:Ab9 x (y::l)=if x<y then x::y::l else y::Ab9 x l:=rfl
  rw[e]
  by_cases h:x<y
  · rw[if_pos h,decide_eq_true h];rfl
  · rw[if_neg h,decide_eq_false h];rfl
theorem Zp:∀(es:Es)(bs:List (List UInt8)),es.map (fun e=>e.1)=bs.map sv→Amd es=(Qk bs).map sv
 |[],[],_=>rfl
 |[],_::_,h=>by cases h
 |_::_,[],h=>by cases h
 |e::es,b::bs,h=>by
  have h1:=List.cons.inj h
  have h0:e.1=sv b:=h1.1
  show A06 e.1 (Amd es)=(Ab9 b (Qk bs)).map sv
  rw[Zp es bs h1.2,h0,Ap1]
theorem Wv(x:List UInt8):∀l,(Ab9 x l).Perm (x::l)
 |[]=>.refl _
 |y::l=>by
  unfold Ab9
  by_cases h:x<y
  · rw[if_pos h]
  · rw[if_neg h];exact((Wv x l).cons y).trans (.swap x y l)
theorem Lo:∀l,(Qk l).Perm l
 |[]=>.refl _
 |x::l=>(Wv x (Qk l)).trans ((Lo l).cons x)
theorem Aa2(x:List UInt8):∀l:List (List UInt8),l.Pairwise (fun a b=>a≤b)→(Ab9 x l).Pairwise (fun a b=>a≤b)
 |[],_=>List.pairwise_singleton _ _
 |y::l,h=>by
  have h':=List.pairwise_cons.1 h
  unfold Ab9
  by_cases hx:x<y
  · rw[if_pos hx]
    refine List.pairwise_cons.2 ⟨fun z hz=>?_,h⟩
    rcases List.mem_cons.1 hz with rfl|hz
    · exact List.le_of_lt hx
    · exact List.le_trans (List.le_of_lt hx) (h'.1 z hz)
  · rw[if_neg hx]
    refine List.pairwise_cons.2 ⟨fun z hz=>?_,Aa2 x l h'.2⟩
    rcases List.mem_cons.1 ((Wv x l).mem_iff.1 hz) with rfl|hz
    · exact List.not_lt.1 hx
    · exact h'.1 z hz
theorem Xp:∀l,(Qk l).Pairwise (fun a b=>a≤b)
 |[]=>.nil
 |x::l=>Aa2 x _ (Xp l)
theorem Azq{ss bs:List (List UInt8)}(h:ss.Perm bs):(ss.mergeSort fun x y=>decide (x≤y))=Qk bs:=by
 have tr:∀a b c:List UInt8,leB a b=true→leB b c=true→leB a c=true:=fun a b c h1 h2=>by simp only[leB,decide_eq_true_eq] at *;exact List.le_trans h1 h2
 have to:∀a b:List UInt8,(leB a b||leB b a)=true:=fun a b=>by simp only[leB,Bool.or_eq_true,decide_eq_true_eq];exact List.le_total a b
 refine List.Perm.eq_of_pairwise (le:=fun a b=>leB a b=true) (fun a b _ _ h1 h2=>?_) (List.pairwise_mergeSort tr to ss) ((Xp bs).imp fun{a b} hab=>by simpa[leB] using hab) (((List.mergeSort_perm ss leB).trans h).trans (Lo bs).symm)
 simp only[leB,decide_eq_true_eq] at h1 h2
 exact List.le_antisymm h1 h2
theorem Rp{α:Type}{p:α→Bool}:∀{l:List α},Al0 p l=true↔∀x∈l,p x=true
 |[]=>⟨fun _ _ h=>(List.not_mem_nil h).elim,fun _=>rfl⟩
 |x::l=>by
  show(Bool.rec false (Al0 p l) (p x):Bool)=true↔_
  cases e:p x with
  |true=>
   show Al0 p l=true↔_
   rw[Rp]
   exact⟨fun h y hy=>(List.mem_cons.1 hy).elim (fun e'=>by rw[e'];exact e) (h y),fun h y hy=>h y (List.mem_cons_of_mem _ hy)⟩
  |false=>exact⟨(fun h=>by cases h),fun h=>by rw[h x (List.mem_cons_self)] at e;cases e⟩
theorem Axv{b:Bool}(h:Ci b=true):b=false:=by cases b with|true=>cases h|false=>rfl
theorem Aka(b:List UInt8):Ahj (sv b) (sv b)=true:=by
 show An (Nat.beq b.length b.length) (Nat.beq (enc b) (enc b))=true
 rw[Nat.beq_refl,Nat.beq_refl];rfl
theorem Ajw:∀{es:Es}{bs:List (List UInt8)},es.map (fun e=>e.1)=bs.map sv→Abu es=true→(es.map fun e=>e.2.2).Nodup∧bs.Nodup
 |[],[],_,_=>⟨.nil,.nil⟩
 |[],_::_,h,_=>by cases h
 |_::_,[],h,_=>by cases h
 |e::es,b::bs,h,ha=>by
  have h1:=List.cons.inj h
  have ha:An (Al0 (fun f=>An (Ci (Ahj e.1 f.1)) (Ci (Nat.beq e.2.2 f.2.2))) es) (Abu es)=true:=ha
  obtain⟨a,b'⟩:=Al ha
  have a:=Rp.1 a
  obtain⟨i1,i2⟩:=Ajw h1.2 b'
  refine⟨List.nodup_cons.2 ⟨fun hm=>?_,i1⟩,List.nodup_cons.2 ⟨fun hm=>?_,i2⟩⟩
  · obtain⟨f,hf,ef⟩:=List.mem_map.1 hm
    have:=Axv (Al (a f hf)).2
    rw[ef,Nat.beq_refl] at this;cases this
  · have:sv b∈es.map fun e=>e.1:=by rw[h1.2];exact List.mem_map_of_mem hm
    obtain⟨f,hf,ef⟩:=List.mem_map.1 this
    have:=Axv (Al (a f hf)).1
    have h0:e.1=sv b:=h1.1
    have ef:f.1=sv b:=ef
    rw[ef,h0,Aka] at this;cases this
theorem Bf4{μ:Mu}:∀{es:Es}{xs:List MapEntry},EsR μ es xs→(∀e∈es,Ad8 e.1=true)→∃bs:List (List UInt8),xs.map (fun x=>x.key)=bs.map Proofs.encStr∧es.map (fun e=>e.1)=bs.map sv∧xs.map (fun x=>x.born)=es.map (fun e=>e.2.2)∧∀b∈bs,b.length≤1000000
 |[],_,h,_=>by cases(show _=[] from h);exact⟨[],rfl,rfl,rfl,fun _ h=>(List.not_mem_nil h).elim⟩
 |e::es,_,⟨x,xs,rfl,h1,_,h3,h4⟩,hs=>by
  obtain⟨b,e1,e2,e3⟩:=Bdd (hs e (List.mem_cons_self)) h1
  obtain⟨bs,k1,k2,k3,k4⟩:=Bf4 h4 fun f hf=>hs f (List.mem_cons_of_mem _ hf)
  refine⟨b::bs,by simp[e1,k1],by simp[e2,k2],by simp[←h3,k3],fun c hc=>?_⟩
  rcases List.mem_cons.1 hc with rfl|hc
  · exact e3
  · exact k4 c hc
theorem Sim.Bmr{T:Type}{μ:Mu}{h:Hp T}{w w':World}(s:Sim μ h w)(b:Below w.heap.size w w'){o:Ob T}{l:Loc}(hl:w.heap.size≤l.blk)(ho:∀μ',Mu.le μ μ'→ObR μ' w' l o):
 Sim (μ.set h.next l) (h.new o) w'∧Dc μ h w (μ.set h.next l) (h.new o) w':=by
 have hn:μ h.next=Option.none:=s.none (Nat.le_refl _)
 have hle:=Mu.Aau (l:=l) hn
 have hlt:∀c q,h.at c≠.dead→μ c=some q→q.blk<w.heap.size:=fun c q hc hq=>(s.ob c q hc hq).lt hc
 have hsucc:(h.new o).next.nat=h.next.nat+1:=P.Dx _
 refine⟨⟨?_,?_,?_,?_⟩,⟨hle,b.size,fun k hk _=>b.block k hk,?_,⟨by omega,fun c hc e=>?_⟩,b.os,b.tape,b.output⟩⟩
 · intro c q hc
   rw[hsucc]
   by_cases e:c=h.next
   · subst e;omega
   · rw[Mu.Cf _ _ e] at hc;have:=s.fresh c q hc;omega
 · intro c hc
   rw[hsucc] at hc
   rw[Fs,if_neg (fun e=>by subst e;omega)]
   exact s.dead c (by omega)
 · intro c q hc hq
   rw[Fs] at hc ⊢
   by_cases e:c=h.next
   · subst e;rw[if_pos rfl];rw[Mu.Cq] at hq;cases hq;exact ho _ hle
   · rw[if_neg e] at hc ⊢
     rw[Mu.Cf _ _ e] at hq
     have r:=s.ob c q hc hq
     exact(r.mono hle).world (b.block _ (r.lt hc))
 · intro c c' q q' hc hc' hq hq' he
   rw[Fs] at hc hc'
   by_cases e:c=h.next
   · by_cases e':c'=h.next
     · rw[e,e']
     · rw[if_neg e'] at hc'
       rw[e,Mu.Cq] at hq;cases hq
       rw[Mu.Cf _ _ e'] at hq'
       have:=hlt c' q' hc' hq'
       omega
   · rw[if_neg e] at hc
     rw[Mu.Cf _ _ e] at hq
     have hc0:h.at c≠.dead:=fun e0=>by rw[e0] at hc;cases hc
     by_cases e':c'=h.next
     · rw[e',Mu.Cq] at hq';cases hq'
       have:=hlt c q hc0 hq
       omega
     · rw[if_neg e'] at hc'
       rw[Mu.Cf _ _ e'] at hq'
       exact s.inj c c' q q' hc hc' hq hq' he
 · rintro k hk ⟨c,q,hc,hq,rfl⟩
   rw[Fs] at hc
   by_cases e:c=h.next
   · rw[e,Mu.Cq] at hq;cases hq;omega
   · rw[if_neg e] at hc
     rw[Mu.Cf _ _ e] at hq
     exact⟨c,q,hc,hq,rfl⟩
 · have ec:c≠h.next:=fun e'=>by subst e';omega
   exact⟨by rw[Mu.Cf _ _ ec];exact e,by rw[Fs,if_neg ec]⟩
theorem Wy:∀(l:List AV)(K:List AV→Prop),Af1 l K=K l
 |[],_=>rfl
 |x::l,K=>by
  show Cj x (fun x=>Af1 l (fun r=>K (x::r)))=_
  rw[Ch,Wy l]
theorem Bme:PP.underlying 9=some .string:=Proofs.Tryz.underlying9
theorem Au8{b:List UInt8}(hb:b.length≤1000000):keyOf PP 9 (Proofs.encStr b)=some (.string b):=by
 have hs:(ByteArray.mk b.toArray).size≤maxLen:=by
  have:(ByteArray.mk b.toArray).size=b.length:=by simp[ByteArray.size]
  rw[this];exact Nat.le_trans hb (by decide)
 have:=WideMaps.keyOf_string_mk (P:=PP) Bme hs
 rw[this]
theorem A6b{μ:Mu}{h:H}{w:World}(s:Sim μ h w){p m:P}{t:Tm}{n z:Nat}{e:TypeId}{es:Es}{ck:Nat}(hp:h.at p=.row t n z e true)(hn:0<n)(ht:Aw t 0=.map m)(hm:h.at m=.map es ck)(hc:Abe es ck=true){k:KV}
 (hk:Af1 (Amd es) (fun T=>List.rec (k .Ai h) (fun _ _ _=>Hp.Cs h (.row (Aj T 0 .e) (len T) 0 9 false) (fun b h'=>k (.slice b 0 (len T) 1 false) h')) T)) {lp:Loc} (hlp:μ p=some lp):
 Calls PP 37 #[.func (.func 61) #[] #[.pointer (some ⟨lp.blk,lp.off+0,none⟩)]] w fun e w'=>∃v μ' av h',e=.returned v∧Sim μ' h' w'∧Dc μ h w μ' h' w'∧VR μ' av v∧k av h':=by
 obtain⟨c1,c2⟩:=Al hc
 obtain⟨c2,c3⟩:=Al c2
 have c1:=Nat.le_of_ble_eq_true c1
 rw[De] at c1
 have c2:=Rp.1 c2
 have hrow:=s.ob p lp (by rw[hp];exact fun e=>nomatch e) hlp
 rw[hp] at hrow
 obtain⟨cs,fz,hblk,hcs,hw,_⟩:=hrow
 obtain⟨hoff,hncs⟩:=hw rfl
 obtain⟨v0,hv0,hvr,_⟩:=hcs.2.2 0 hn
 rw[ht] at hvr
 obtain⟨lm,hlm,rfl⟩:=hvr
 have hmap:=s.ob m lm (by rw[hm];exact fun e=>nomatch e) hlm
 rw[hm] at hmap
 obtain⟨xs,hxs,hes⟩:=hmap
 obtain⟨bs,b1,b2,b3,b4⟩:=Bf4 hes fun e he=>(Al (c2 e he)).1
 obtain⟨nb,nk⟩:=Ajw b2 c3
 have hlen:xs.size=es.length:=by
  have:=congrArg List.length b3
  simpa using this
 have hbl:bs.length=es.length:=by
  have:=congrArg List.length b2
  simpa using this.symm
 rw[hoff] at hv0 ⊢
 have hcell:w.cell? ⟨lp.blk,0,none⟩=some (.map (some lm.blk)):=by rw[Mb hblk];exact hv0
 have hBm:lp.blk<w.heap.size:=(Array.getElem?_eq_some_iff.1 hblk).1
 let R:Value→Option (DataW Unit×List MemPlace):=fun _=>some (.nil,[])
 have hkey:∀x∈xs.toList,∃b∈bs,x.key=Proofs.encStr b:=fun x hx=>by
  have:x.key∈bs.map Proofs.encStr:=by rw[←b1];exact List.mem_map_of_mem hx
  obtain⟨b,hb,e⟩:=List.mem_map.1 this
  exact⟨b,hb,e.symm⟩
 have hrd:∀x∈xs.toList,∀b,x.key=Proofs.encStr b→b∈bs→WideElems.rd PP 9 R x=some (.string b,.nil):=fun x _ b e hb=>by
  unfold WideElems.rd
  rw[e,Au8 (b4 b hb)];rfl
 have F1:∀x∈xs.toList,x.born<ck:=fun x hx=>by
  have:x.born∈es.map fun e=>e.2.2:=by rw[←b3];exact List.mem_map_of_mem hx
  obtain⟨f,hf,ef⟩:=List.mem_map.1 this
  have:=Nat.le_of_ble_eq_true (Al (c2 f hf)).2
  have e':Nat.add f.2.2 1=f.2.2+1:=rfl
  have ef:f.2.2=x.born:=ef
  omega
 have F2:(xs.toList.map fun x=>x.born).Nodup:=by rw[b3];exact nb
 have F3:(xs.toList.map fun x=>x.key).Nodup:=by
  rw[b1]
  exact List.pairwise_map.2 (nk.imp fun{a b} hab e=>hab (encStr_inj e))
 have F:WideElems.Fit PP 9 R xs ck:=⟨Nat.le_trans (by rw[hlen];exact c1) (by decide),⟨F1,F2,F3⟩,fun x hx=>by
  obtain⟨b,hb,e⟩:=hkey x hx
  exact⟨_,hrd x hx b e hb⟩⟩
 let D0:DataW Unit:=.map ((xs.toList.map (WideElems.rg PP 9 R)).foldr DataW.insert [])
 have hown:w.ownsMap PP 9 R lm.blk es.length D0:=⟨xs,ck,hxs,F,by omega,rfl⟩
 have hkeys:(strKeys D0).Perm bs:=by
  show(((xs.toList.map (WideElems.rg PP 9 R)).foldr DataW.insert []).map fun p=>Go.strOf p.1).Perm bs
  refine((WideShapes.sorted_perm _).map _).trans ?_
  rw[List.map_map]
  have:xs.toList.map ((fun p=>Go.strOf p.1)∘WideElems.rg PP 9 R)=bs:=by
   have key:∀(ys:List MapEntry)(cs:List (List UInt8)),ys.map (fun x=>x.key)=cs.map Proofs.encStr→(∀c∈cs,c.length≤1000000)→ys.map ((fun p=>Go.strOf p.1)∘WideElems.rg PP 9 R)=cs:=by
    intro ys
    induction ys with
    |nil=>intro cs h _;cases cs with
     |nil=>rfl
     |cons=>cases h
    |cons y ys ih=>intro cs h hc;cases cs with
     |nil=>cases h
     |cons c cs=>
      have h:=List.cons.inj h
      rw[List.map_cons,ih cs h.2 fun d hd=>hc d (List.mem_cons_of_mem _ hd)]
      congr 1
      show Go.strOf ((WideElems.rd PP 9 R y).getD _).1=c
      unfold WideElems.rd
      have h0:y.key=Proofs.encStr c:=h.1
      rw[h0,Au8 (hc c List.mem_cons_self)];rfl
   exact key _ _ b1 b4
  rw[this]
 have hsz:Maps.size D0≤1000:=by
  show((xs.toList.map (WideElems.rg PP 9 R)).foldr DataW.insert []).length≤1000
  rw[length_sorted];simp;omega
 have hseq:SeqGives Fence.wide 2 PP 61 #[.pointer (some ⟨lp.blk,0,none⟩)] Proofs.encStr (fun ss=>ss.Perm (strKeys D0)) (Maps.size D0) w:=
  Proofs.AnyZ.keys_gives (ρ:=Proofs.Tryz.Aav) { Proofs.Tryz.A71 with } Fence.wide _ trivial rfl (by omega) lp.blk lm.blk es.length D0 w hBm hcell hown
 have cS:=Proofs.AnyZ.sorted_in Proofs.Tryz.As6 Fence.wide 5 trivial trivial trivial trivial rfl (by omega) (Proofs.Tryz.Azp _) (Proofs.enters_of Proofs.Tryz.func60 (by kernel_rfl) rfl) 61 #[.pointer (some ⟨lp.blk,0,none⟩)] trivial (Proofs.enters_of Proofs.Tryz.func61 (by kernel_rfl) rfl) _ (Maps.size D0) (Nat.le_trans hsz (by decide)) (by omega) w hseq
 change CallsIn _ _ PP 37 _ _ _ at cS
 refine(callsIn_wide.1 cS).mono ?_
 rintro e' w' ⟨v,ss,rfl,hS,⟨hl,hrow⟩,hnil,hb⟩
 rw[Azq (hS.trans hkeys)] at hl hrow
 have hsl:ss.length=bs.length:=(hS.trans hkeys).length_eq
 have hk':=hk
 rw[Wy,Zp es bs b2] at hk'
 generalize hT:Qk bs=T at hk' hl hrow
 have hTl:T.length=bs.length:=by rw[←hT];exact(Lo bs).length_eq
 rcases hrow with⟨rfl,h0⟩|⟨g,cap,cur,rfl,hg,hcells,hle,hcap,hcur,htake⟩
 · cases T with
   |nil=>exact⟨_,μ,.Ai,h,rfl,s.below hb,.below hb,rfl,hk'⟩
   |cons=>simp at hTl;omega
 · cases T with
   |nil=>
    have h0:ss=[]:=List.eq_nil_of_length_eq_zero (by rw[hsl,←hTl];rfl)
    exact nomatch hnil.2 h0
   |cons x T=>
    have hk':Hp.Cs h (.row (Aj ((x::T).map sv) 0 .e) (len ((x::T).map sv)) 0 9 false) (fun b h'=>k (.slice b 0 (len ((x::T).map sv)) 1 false) h'):=hk'
    rw[Mj,De] at hk'
    have hLs:((x::T).map sv).length=ss.length:=by rw[List.length_map];omega
    generalize hL:(x::T).map sv=L at hk' hLs
    have hcell:∀(μ':Mu)(i:Nat),i<L.length→∃v,cur[0+i]? =some v∧VR μ' (Aw (Aj L 0 .e) i) v∧(Aw (Aj L 0 .e) i).one=true:=fun μ' i hi=>by
     have hi2:i<(x::T).length:=by rw[←hL,List.length_map] at hi;exact hi
     have hget:cur.toList[i]? =some (Proofs.encStr (x::T)[i]):=by
      have:=congrArg (fun l=>l[i]?) htake
      simp only[List.getElem?_take] at this
      rw[if_pos (by omega),List.getElem?_map,List.getElem?_eq_getElem hi2] at this
      simpa using this
     have et:Aw (Aj L 0 .e) i=sv (x::T)[i]:=by
      rw[Ah,if_pos (by omega),List.getD_eq_getElem?_getD,←hL,List.getElem?_map,Nat.sub_zero,List.getElem?_eq_getElem hi2];rfl
     rw[et]
     refine⟨_,?_,Bcq _,rfl⟩
     rw[Nat.zero_add,←Array.getElem?_toList];exact hget
    obtain⟨s',x'⟩:=s.Bmr hb (o:=.row (Aj L 0 .e) L.length 0 9 false) (l:=⟨g,0,cap⟩) hg fun μ' _=>⟨cur,(0,0),hcells,⟨by show cap=cur.size;omega,by show 0+L.length≤cur.size;omega,hcell μ'⟩,(fun e=>nomatch e),fun _ i _ _=>by show¬(0≤i∧i<0);omega⟩
    refine⟨_,μ.set h.next ⟨g,0,cap⟩,.slice h.next 0 L.length 1 false,_,rfl,s',x',⟨_,_,by rw[hLs],by omega,⟨(fun e=>nomatch e),_,Mu.Cq _ _ _⟩,.inr ⟨_,Mu.Cq _ _ _,rfl,?_⟩⟩,hk'⟩
    show 0+0+cap*1≤cap;omega
theorem A2x{v:AV}{h:H}{k:KV}(hg:sK v h k):W1 (.func 37) [v] h k:=by
 unfold sK at hg
 split at hg
 · rename_i i p o
   cases hc:An (Nat.beq i 61) (Nat.beq o 0) with
   |false=>rw[hc] at hg;exact hg.elim
   |true=>
    rw[hc] at hg
    obtain⟨c1,c2⟩:=Al hc
    obtain rfl:=Nat.eq_of_beq_eq_true c1
    obtain rfl:=Nat.eq_of_beq_eq_true c2
    have hg:=(show(match h.at p with
     |.row t n _ _ w=>cnd (An w (Nat.ble 1 n)) (Asf (Aw t 0) (fun m=>match h.at m with
      |.map es ck=>sK2 es ck h k
      |_=>False)) False
     |_=>False:Prop) from hg)
    split at hg
    · rename_i t n z e w hp
      cases hn:An w (Nat.ble 1 n) with
      |false=>rw[hn] at hg;exact hg.elim
      |true=>
       rw[hn] at hg
       obtain⟨rfl,hn⟩:=Al hn
       have hg:Asf (Aw t 0) (fun m=>match h.at m with
        |.map es ck=>sK2 es ck h k
        |_=>False):=hg
       unfold Asf at hg
       split at hg
       · rename_i m ht
         split at hg
         · rename_i es ck hm
           unfold sK2 at hg
           cases hck:Abe es ck with
           |false=>rw[hck] at hg;exact hg.elim
           |true=>
            rw[hck] at hg
            intro μ w fn' vargs s gl hf hv
            have hf:fn'=.func 37:=by cases fn'<;>first|exact hf.symm|exact hf.elim
            obtain⟨u,us,e1,hu,hus⟩:=hv
            cases(show us=[] from hus)
            obtain⟨fn2,vs,ws,rfl,hf2,hvs,hws,_⟩:=hu
            have hf2:fn2=.func 61:=by cases fn2<;>first|exact hf2.symm|exact hf2.elim
            have hvs:vs=#[]:=by apply Array.ext';exact hvs
            obtain⟨q,qs,e2,⟨lp,hlp,rfl⟩,hqs⟩:=hws
            cases(show qs=[] from hqs)
            have e2:ws=#[.pointer (some ⟨lp.blk,lp.off+0,none⟩)]:=by apply Array.ext';exact e2
            have e1:vargs=#[.func (.func 61) #[] #[.pointer (some ⟨lp.blk,lp.off+0,none⟩)]]:=by apply Array.ext';rw[e1,hf2,hvs,e2]
            subst hf;subst e1
            exact .inl ⟨37,rfl,.inr ⟨Proofs.enters_of Proofs.Tryz.func37 (by kernel_rfl) rfl _ _,A6b s hp (Nat.le_of_ble_eq_true hn) ht hm hck hg hlp⟩⟩
         · exact hg.elim
       · exact hg.elim
    · exact hg.elim
 · exact hg.elim
end Go.Den
namespace Go.Den
open Go.RowKit
set_option maxRecDepth 100000
theorem Aye{a:List AV}{h:H}{k:KV}(hg:Aqz a (fun v=>sK v h k)):W1 (.func 37) a h k:=by
 unfold Aqz at hg
 split at hg
 · exact A2x hg
 · exact hg.elim
theorem Xd(m:Nat):∀n,Fb PP (CP env) G (fun p=>p) (Abk m n)
 |0=>fun _ _ _ _ _ _ _ _ _ _ _ _ hg=>hg.elim
 |n+1=>fun μ h w fn fn' args vargs k s gl hf hv hg=>by
  cases fn with
  |func i=>
   have hg:cnd (Nat.beq i 37) (Aqz args (fun v=>sK v h k)) (Ar1 (Abk m n) m i args h k):=hg
   cases e8:Nat.beq i 37 with
   |true=>
    rw[e8] at hg
    cases Nat.eq_of_beq_eq_true e8
    exact Aye hg μ w fn' vargs s gl hf hv
   |false=>
    rw[e8] at hg
    exact Aqi (Xd m n) (show Ar1 (Abk m n) m i args h k from hg) μ w fn' vargs s gl hf hv
  |yield l=>exact Ty mixed Dn (Xd m n) (show Tc env (Abk m n) (Aah PP env G) l args h k from hg) μ w fn' vargs s gl hf hv
  |_=>exact hg.elim
theorem Asu{F:FuncId}{args:List AV}{m n:Nat}(h:Abk m n (.func F) args h0 isT=True):Pure PP G h0 F args (.bool true):=
 Azi (A2t (Xd m n) (h.mpr trivial)) fun _ _ h=>Apy h
end Go.Den
