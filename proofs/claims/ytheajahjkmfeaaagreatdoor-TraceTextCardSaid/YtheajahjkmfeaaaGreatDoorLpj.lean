/-
 Proof.
-/
import Derived.Test.YtheajahjkmfeaaaGreatDoorLpi
import Derived.Test.YtheajahjkmfeaaaGreatDoorTob
import Derived.Test.YtheajahjkmfeaaaGreatDoorCre
noncomputable section
namespace Go.Den
open Go.RowKit
set_option maxRecDepth 100000
abbrev Cn:=List (List UInt8×Nat)
def cE:Cn→Nat→Es
 |[],_=>[]
 |x::r,i=>(S x.1,.int .i64 (Int.ofNat x.2),i)::cE r (i+1)
theorem Axe:∀(L:Cn)(i:Nat),(cE L i).length=L.length
 |[],_=>rfl
 |_::r,i=>by rw[cE,List.length_cons,Axe r,List.length_cons]
def cnt(b:List UInt8):Cn→Nat
 |[]=>0
 |x::r=>if b=x.1 then x.2 else cnt b r
def inc(b:List UInt8):Cn→Cn
 |[]=>[(b,1)]
 |x::r=>if b=x.1 then(x.1,x.2+1)::r else x::inc b r
theorem Ap3(b:List UInt8):∀L:Cn,(inc b L).length≤L.length+1
 |[]=>Nat.le_refl _
 |x::r=>by
  have:=Ap3 b r
  unfold inc
  split
  · simp only[List.length_cons];omega
  · simp only[List.length_cons];omega
theorem Ap2(b:List UInt8):∀(L:Cn),∀x∈inc b L,x.1=b∨∃y∈L,y.1=x.1
 |[],x,hx=>by
  have:x=(b,1):=by simpa[inc] using hx
  exact .inl (by rw[this])
 |y::r,x,hx=>by
  unfold inc at hx
  split at hx
  · rcases List.mem_cons.1 hx with e|e
    · exact .inr ⟨y,List.mem_cons_self,by rw[e]⟩
    · exact .inr ⟨x,List.mem_cons_of_mem _ e,rfl⟩
  · rcases List.mem_cons.1 hx with e|e
    · exact .inr ⟨y,List.mem_cons_self,by rw[e]⟩
    · rcases Ap2 b r x e with q|⟨z,hz,q⟩
      · exact .inl q
      · exact .inr ⟨z,List.mem_cons_of_mem _ hz,q⟩
theorem inc_le(b:List UInt8){n:Nat}:∀(L:Cn),(∀x∈L,x.2≤n)→∀x∈inc b L,x.2≤n+1
 |[],_,x,hx=>by
  have:x=(b,1):=by simpa[inc] using hx
  rw[this];exact Nat.le_add_left 1 n
 |y::r,hn,x,hx=>by
  have h1:=hn y List.mem_cons_self
  unfold inc at hx
  split at hx
  · rcases List.mem_cons.1 hx with e|e
    · rw[e];exact Nat.succ_le_succ h1
    · exact Nat.le_succ_of_le (hn x (List.mem_cons_of_mem _ e))
  · rcases List.mem_cons.1 hx with e|e
    · rw[e];exact Nat.le_succ_of_le h1
    · exact inc_le b r (fun z hz=>hn z (List.mem_cons_of_mem _ hz)) x e
theorem Aw1(b:List UInt8){n:Nat}:∀(L:Cn),(∀x∈L,x.2≤n)→cnt b L≤n
 |[],_=>Nat.zero_le _
 |y::r,hn=>by
  unfold cnt
  split
  · exact hn y List.mem_cons_self
  · exact Aw1 b r fun z hz=>hn z (List.mem_cons_of_mem _ hz)
structure Le(L:Cn)(n:Nat):Prop where
 ap:(L.map (·.1)).Nodup
 sh:∀x∈L,x.1.length≤1000000
 len:L.length≤n
 val:∀x∈L,x.2≤n
theorem Le.nil:Le [] 0:=⟨List.nodup_nil,fun _ h=>absurd h List.not_mem_nil,Nat.le_refl _,fun _ h=>absurd h List.not_mem_nil⟩
theorem Ais(b:List UInt8):∀L:Cn,(inc b L).map (·.1)=if b∈L.map (·.1) then L.map (·.1) else L.map (·.1)++[b]
 |[]=>rfl
 |x::r=>by
  have:=Ais b r
  unfold inc
  by_cases e:b=x.1
  · rw[if_pos e,if_pos (by rw[e];simp)];rfl
  · rw[if_neg e,List.map_cons,this,List.map_cons]
    by_cases m:b∈r.map (·.1)
    · rw[if_pos m,if_pos (List.mem_cons_of_mem _ m)]
    · rw[if_neg m,if_neg fun q=>(List.mem_cons.1 q).elim e m];rfl
theorem Le.inc{L:Cn}{n:Nat}{b:List UInt8}(c:Le L n)(hb:b.length≤1000000):Le (inc b L) (n+1) where
 ap:=by
  rw[Ais]
  split
  · exact c.ap
  · rename_i m
    exact List.nodup_append.2 ⟨c.ap,List.pairwise_singleton _ _,fun x hx y hy=>by
     have:y=b:=by simpa using hy
     subst this;exact fun e=>m (by rw[←e];exact hx)⟩
 sh:=fun x hx=>by
  rcases Ap2 b L x hx with e|⟨y,hy,e⟩
  · rw[e];exact hb
  · rw[←e];exact c.sh y hy
 len:=Nat.le_trans (Ap3 b L) (Nat.succ_le_succ c.len)
 val:=inc_le b L c.val
theorem A3m(b:List UInt8):∀(L:Cn)(i j:Nat),(Ee (S b) (cE L i) j=some none∧cnt b L=0∧inc b L=L++[(b,1)])∨∃k,k<L.length∧Ee (S b) (cE L i) j=some (some (.int .i64 (Int.ofNat (cnt b L)),i+k,j+k))∧setAt (S b,.int .i64 (Int.ofNat (cnt b L+1)),i+k) k (cE L i)=cE (inc b L) i∧(inc b L).length=L.length
 |[],_,_=>.inl ⟨rfl,rfl,rfl⟩
 |x::r,i,j=>by
  have e:Ee (S b) (cE (x::r) i) j=(Bool.rec (Ee (S b) (cE r (i+1)) (Nat.add j 1)) (some (some (.int .i64 (Int.ofNat x.2),i,j))) (Dv b.length (enc b) x.1.length (enc x.1)):Option Hit):=rfl
  rw[e,Fj]
  by_cases q:b=x.1
  · rw[decide_eq_true q]
    refine .inr ⟨0,by simp,?_,?_,?_⟩
    · unfold cnt;rw[if_pos q];rfl
    · unfold cnt Go.Den.inc;rw[if_pos q,if_pos q,q];rfl
    · unfold Go.Den.inc;rw[if_pos q];rfl
  · rw[decide_eq_false q]
    rcases A3m b r (i+1) (Nat.add j 1) with⟨h1,h2,h3⟩|⟨k,hk,h1,h2,h3⟩
    · refine .inl ⟨h1,?_,?_⟩
      · unfold cnt;rw[if_neg q];exact h2
      · unfold Go.Den.inc;rw[if_neg q,h3];rfl
    · refine .inr ⟨k+1,by simp;omega,?_,?_,?_⟩
      · have c:cnt b (x::r)=cnt b r:=by rw[cnt,if_neg q]
        rw[c]
        have a1:i+1+k=i+(k+1):=by omega
        have a2:Nat.add j 1+k=j+(k+1):=by show j+1+k=_;omega
        rw[a1,a2] at h1
        exact h1
      · have c:cnt b (x::r)=cnt b r:=by rw[cnt,if_neg q]
        have d:Go.Den.inc b (x::r)=x::Go.Den.inc b r:=by rw[Go.Den.inc,if_neg q]
        rw[c,d]
        have a1:i+1+k=i+(k+1):=by omega
        rw[a1] at h2
        show(S x.1,.int .i64 (Int.ofNat x.2),i)::setAt _ k (cE r (i+1))=(S x.1,.int .i64 (Int.ofNat x.2),i)::cE (Go.Den.inc b r) (i+1)
        rw[h2]
      · unfold Go.Den.inc;rw[if_neg q,List.length_cons,h3,List.length_cons]
theorem Aqq(x:List UInt8×Nat):∀(L:Cn)(i:Nat),cE (L++[x]) i=cE L i++[(S x.1,.int .i64 (Int.ofNat x.2),i+L.length)]
 |[],i=>rfl
 |y::r,i=>by
  show cE (y::(r++[x])) i=_
  rw[cE,Aqq x r,cE]
  have:i+1+r.length=i+(y::r).length:=by simp only[List.length_cons];omega
  rw[this];rfl
def IsC(h:H)(m:P)(L:Cn):Prop:=h.at m=.map (cE L 0) L.length
theorem A7y(q:P)(l c:Nat)(h:H):Db env 95 (.map q) (.str l c) false h=(Option.rec none (fun p=>Fv env 3 false (Ee (.str l c) p.1 0) h) (Kt (h.at q)):Option (AV×H)):=by kernel_rfl
theorem A0u(v:AV)(b i:Nat)(h:H):Fv env 3 false (some (some (v,b,i))) h=some (v,h):=by kernel_rfl
theorem A0v(h:H):Fv env 3 false (some none) h=some (.int .i64 (.ofNat 0),h):=by kernel_rfl
theorem A2q(q:P)(l c:Nat)(v:AV)(h:H):Dj env 95 (.map q) (.str l c) v h=(Option.rec none (fun p=>Oq q (.str l c) v p.1 p.2 (Ee (.str l c) p.1 0) h) (Kt (h.at q)):Option (AV×H)):=by kernel_rfl
theorem IsC.add{h:H}{m:P}{L:Cn}{n:Nat}(r:IsC h m L)(c:Le L n)(hn:n≤100000000){b:List UInt8}{K:H→Prop}(hk:∀h',h'.next=h.next→(∀c,c≠m→h'.at c=h.at c)→IsC h' m (inc b L)→K h'):
 oK (Db env 95 (.map m) (.str b.length (enc b)) false h) fun v h1=>asI .i64 v fun n=>fI (wrap .i64 (Bq n (Int.ofNat 1))) fun n'=>oK (Dj env 95 (.map m) (.str b.length (enc b)) (.int .i64 n') h1) fun _ h2=>K h2:=by
 have r':h.at m=.map (cE L 0) L.length:=r
 have hc:=Aw1 b L c.val
 rw[A7y,r']
 show oK (Fv env 3 false (Ee (S b) (cE L 0) 0) h) _
 rcases A3m b L 0 0 with⟨h1,h2,h3⟩|⟨k,_,h1,h2,h3⟩
 · rw[h1,A0v,Ad,Bj]
   refine Bw (a:=0) (b:=1) (by decide) ?_
   rw[A2q,r']
   show oK (Oq m (S b) (.int .i64 (Int.ofNat 1)) (cE L 0) L.length (Ee (S b) (cE L 0) 0) h) _
   rw[h1]
   show oK (some (.undef,h.put m (.map (Jh (cE L 0) [(S b,.int .i64 (Int.ofNat 1),L.length)]) (Nat.add L.length 1)))) _
   rw[Ad]
   refine hk _ rfl (fun c hc=>Az hc) ?_
   unfold IsC
   rw[Ba,Abt,h3,Aqq,List.length_append,Nat.zero_add];rfl
 · rw[h1,A0u,Ad,Bj]
   refine Bw (a:=cnt b L) (b:=1) (by omega) ?_
   rw[A2q,r']
   show oK (Oq m (S b) (.int .i64 (Int.ofNat (cnt b L+1))) (cE L 0) L.length (Ee (S b) (cE L 0) 0) h) _
   rw[h1]
   show oK (some (.undef,h.put m (.map (setAt (S b,.int .i64 (Int.ofNat (cnt b L+1)),0+k) (0+k) (cE L 0)) L.length))) _
   rw[Ad]
   refine hk _ rfl (fun c hc=>Az hc) ?_
   unfold IsC
   rw[Ba,show(0+k)=k from Nat.zero_add k]
   rw[Nat.zero_add] at h2
   rw[h2,h3]
theorem Aqr:∀(L:Cn)(i:Nat),(cE L i).map (fun e=>e.1)=(L.map (·.1)).map sv
 |[],_=>rfl
 |x::r,i=>by rw[cE,List.map_cons,Aqr r (i+1)];rfl
theorem Aln:∀(L:Cn)(i:Nat),∀e∈cE L i,(∃x∈L,e.1=S x.1)∧i≤e.2.2∧e.2.2<i+L.length
 |[],_,e,he=>absurd he List.not_mem_nil
 |x::r,i,e,he=>by
  rw[cE] at he
  rcases List.mem_cons.1 he with q|q
  · subst q;exact⟨⟨x,List.mem_cons_self,rfl⟩,Nat.le_refl _,by show i<i+(r.length+1);omega⟩
  · obtain⟨⟨y,hy,e1⟩,e2,e3⟩:=Aln r (i+1) e q
    exact⟨⟨y,List.mem_cons_of_mem _ hy,e1⟩,by omega,by rw[List.length_cons];omega⟩
theorem Ajh:∀(L:Cn)(i:Nat),(L.map (·.1)).Nodup→Abu (cE L i)=true
 |[],_,_=>rfl
 |x::r,i,h=>by
  rw[List.map_cons,List.nodup_cons] at h
  show An (Al0 (fun f=>An (Ci (Ahj (S x.1) f.1)) (Ci (Nat.beq i f.2.2))) (cE r (i+1))) (Abu (cE r (i+1)))=true
  rw[Ajh r (i+1) h.2,Rp.2 fun f hf=>?_]
  · rfl
  · obtain⟨⟨y,hy,e1⟩,e2,_⟩:=Aln r (i+1) f hf
    rw[e1]
    have a:Ahj (S x.1) (S y.1)=false:=by
     show Dv x.1.length (enc x.1) y.1.length (enc y.1)=false
     rw[Fj,decide_eq_false fun q=>h.1 (by rw[q];exact List.mem_map_of_mem hy)]
    have b:Nat.beq i f.2.2=false:=by
     cases q:Nat.beq i f.2.2 with
     |false=>rfl
     |true=>have:=Nat.eq_of_beq_eq_true q;omega
    rw[a,b];rfl
theorem Bje{L:Cn}{n:Nat}(c:Le L n)(hn:n≤1000):Abe (cE L 0) L.length=true:=by
 have hl:=c.len
 unfold Abe
 rw[De,Axe,Nat.ble_eq_true_of_le (by omega),Ajh L 0 c.ap,Rp.2 fun e he=>?_]
 · rfl
 · obtain⟨⟨y,hy,e1⟩,_,e3⟩:=Aln L 0 e he
   have a:Ad8 e.1=true:=by rw[e1];exact Nat.ble_eq_true_of_le (c.sh y hy)
   have b:Nat.ble (Nat.add e.2.2 1) L.length=true:=Nat.ble_eq_true_of_le (by show e.2.2+1≤_;omega)
   rw[a,b];rfl
theorem A0i{m:P}{K:Prop}(hk:K):one (.map m) K:=hk
theorem c38{h:H}{m:P}{k:KV}(hk:∀h' p,Exh h h'→Cd h' p 95 [.map m]→h.next.nat≤p.nat→p.nat<h'.next.nat→k (.func (.func 61) [] [.ptr p 0]) h'):W1 (.func 38) [.map m] h k:=by
 refine w38 (n:=1) Bg (g38 ?_)
 unfold Aoa
 show one (.map m) _
 refine A0i ?_
 refine newRow (e:=95) (cs:=[.map m]) rfl fun h1 x1 n1 r1=>?_
 exact hk h1 h.next x1 r1 (Nat.le_refl _) (by omega)
theorem Agq{h:H}{m p:P}{L:Cn}{n:Nat}(hm:IsC h m L)(c:Le L n)(hn:n≤1000)(r:Cd h p 95 [.map m]){k:KV}(hk:∀h' v',Exh h h'→(∀q o n z b,v'=.slice q o n z b→h.next.nat≤q.nat)→SlR 1 h' v' (scs (Qk (L.map (·.1))))→k v' h'):W1 (.func 37) [.func (.func 61) [] [.ptr p 0]] h k:=by
 refine A2x ?_
 obtain⟨t,ha,hb⟩:=r
 show cnd (An (Nat.beq 61 61) (Nat.beq 0 0)) (match h.at p with
  |.row t n _ _ w=>cnd (An w (Nat.ble 1 n)) (Asf (Aw t 0) (fun m=>match h.at m with
   |.map es ck=>sK2 es ck h k
   |_=>False)) False
  |_=>False) False
 rw[ha]
 refine Dp rfl ?_
 show cnd (An true (Nat.ble 1 1)) (Asf (Aw t 0) (fun m=>match h.at m with
  |.map es ck=>sK2 es ck h k
  |_=>False)) False
 refine Dp rfl ?_
 rw[show Aw t 0=.map m from hb 0 (by show 0<1;decide)]
 show(match h.at m with
  |.map es ck=>sK2 es ck h k
  |_=>False)
 rw[show h.at m=.map (cE L 0) L.length from hm]
 show sK2 (cE L 0) L.length h k
 unfold sK2
 refine Dp (Bje c hn) ?_
 rw[Wy,Zp _ _ (Aqr L 0)]
 generalize hT:Qk (L.map (·.1))=T at hk
 cases T with
 |nil=>exact hk h .Ai .refl (fun q o n z b e=>by cases e) (.inl ⟨rfl,rfl⟩)
 |cons x r=>
  show Hp.Cs h (.row (Aj ((x::r).map sv) 0 .e) (len ((x::r).map sv)) 0 9 false) (fun b h'=>k (.slice b 0 (len ((x::r).map sv)) 1 false) h')
  refine Cy ?_
  rw[De]
  have el:((x::r).map sv).length=(scs (x::r)).length:=by rw[List.length_map,Fc]
  refine hk _ _ .new (fun q o n z b e=>by cases e;exact Nat.le_refl _) (.inr (Rd.row h.next 0 (Aj ((x::r).map sv) 0 .e) ((x::r).map sv).length 0 9 false false (by rw[el]) (by rw[Bf];omega) (Bc _ _) (by rw[el];omega) fun i hi=>?_))
  have hi':i<(x::r).length:=by rw[Fc] at hi;exact hi
  rw[Of hi' hi]
  refine⟨rfl,fun j hj=>?_⟩
  have hj0:j=0:=by simp only[List.length_cons,List.length_nil] at hj;omega
  subst hj0
  rw[Ah,if_pos ⟨by omega,by rw[List.length_map];omega⟩,List.getD_eq_getElem?_getD,List.getElem?_eq_getElem (by rw[List.length_map];omega)]
  simp only[Option.getD_some,List.getElem_map]
  congr 1
  simp
end Go.Den
