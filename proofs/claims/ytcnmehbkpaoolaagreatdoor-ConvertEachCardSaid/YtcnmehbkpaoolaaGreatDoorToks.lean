/-
 Proof.
-/
import Derived.Test.YtcnmehbkpaoolaaGreatDoorPart
import Derived.Test.YtcnmehbkpaoolaaGreatDoorNump
import Derived.Test.YtcnmehbkpaoolaaGreatDoorQuot
import Derived.Test.YtcnmehbkpaoolaaGreatDoorLexk
import Derived.Test.YtcnmehbkpaoolaaGreatDoorLexq
noncomputable section
namespace Go.Den
open Go.RowKit
set_option maxRecDepth 100000
def kws:List (List UInt8):=[[97,117,116,111],[98,114,101,97,107],[99,97,115,101],[99,104,97,114],[99,111,110,115,116],[99,111,110,116,105,110,117,101],[100,101,102,97,117,108,116],[100,111],[100,111,117,98,108,101],[101,108,115,101],[101,110,117,109],[101,120,116,101,114,110],[102,108,111,97,116],[102,111,114],[103,111,116,111],[105,102],[105,110,108,105,110,101],[105,110,116],[108,111,110,103],[114,101,103,105,115,116,101,114],[114,101,115,116,114,105,99,116],[114,101,116,117,114,110],[115,104,111,114,116],[115,105,103,110,101,100],[115,105,122,101,111,102],[115,116,97,116,105,99],[115,116,114,117,99,116],[115,119,105,116,99,104],[116,121,112,101,100,101,102],[117,110,105,111,110],[117,110,115,105,103,110,101,100],[118,111,105,100],[118,111,108,97,116,105,108,101],[119,104,105,108,101],[95,65,108,105,103,110,97,115],[95,65,108,105,103,110,111,102],[95,65,116,111,109,105,99],[95,66,111,111,108],[95,67,111,109,112,108,101,120],[95,71,101,110,101,114,105,99],[95,73,109,97,103,105,110,97,114,121],[95,78,111,114,101,116,117,114,110],[95,83,116,97,116,105,99,95,97,115,115,101,114,116],[95,84,104,114,101,97,100,95,108,111,99,97,108]]
def Akv:Nat→List (List UInt8)→Es
 |_,[]=>[]
 |i,w::ws=>(S w,.int .i64 (.ofNat 1),i)::Akv (i+1) ws
def Mf:Es:=Akv 0 kws
theorem Akz:∀x∈Mf,plain x.1=true∧plain x.2.1=true:=by
 have key:∀ws i,∀x∈Akv i ws,plain x.1=true∧plain x.2.1=true:=by
  intro ws
  induction ws with
  |nil=>intro i x hx;cases hx
  |cons w ws ih=>
   intro i x hx
   rcases List.mem_cons.1 hx with rfl|hx
   · exact⟨rfl,rfl⟩
   · exact ih _ _ hx
 exact key kws 0
theorem A4i(q:P)(l c:Nat)(h:H):Hg env 94 (.map q) (.str l c) false h=(Option.rec none (fun p=>Us env 3 false (Ou (.str l c) p.1 0) h) (Oz (h.at q)):Option (AV×H)):=by kernel_rfl
theorem A4j(h:H):Us env 3 false (some none) h=some (.int .i64 (.ofNat 0),h):=by kernel_rfl
theorem Aar(s:List UInt8):∀(ws:List (List UInt8))(i j:Nat),(s∈ws→∃p,Ou (S s) (Akv i ws) j=some (some (.int .i64 (.ofNat 1),p)))∧(s∉ws→Ou (S s) (Akv i ws) j=some none)
 |[],_,_=>⟨fun h=>absurd h (by simp),fun _=>rfl⟩
 |w::ws,i,j=>by
  have ih:=Aar s ws (i+1) (Nat.add j 1)
  have e:Ou (S s) (Akv i (w::ws)) j=(Bool.rec (Ou (S s) (Akv (i+1) ws) (Nat.add j 1)) (some (some (.int .i64 (.ofNat 1),i,j))) (Bm s.length (enc s) w.length (enc w)):Option Hit):=rfl
  rw[e,Df]
  by_cases h:s=w
  · rw[decide_eq_true h]
    exact⟨fun _=>⟨_,rfl⟩,fun hn=>absurd (by rw[h];simp) hn⟩
  · rw[decide_eq_false h]
    exact⟨fun hm=>ih.1 (by simpa[h] using hm),fun hn=>ih.2 (fun hm=>hn (by simp[hm]))⟩
theorem Aza{q:P}{h:H}(s:List UInt8)(hq:h.at q=.map Mf 44){k:KV}(hk:k (.int .i64 (.ofNat (if s∈kws then 1 else 0))) h):oK (Hg env 94 (.map q) (.str s.length (enc s)) false h) k:=by
 rw[A4i,hq]
 show oK (Us env 3 false (Ou (S s) Mf 0) h) k
 by_cases e:s∈kws
 · obtain⟨p,hp⟩:=(Aar s kws 0 0).1 e
   rw[if_pos e] at hk
   rw[show Ou (S s) Mf 0=_ from hp]
   show oK (some (.int .i64 (.ofNat 1),h)) k
   rw[Ae];exact hk
 · rw[if_neg e] at hk
   rw[show Ou (S s) Mf 0=_ from(Aar s kws 0 0).2 e,A4j,Ae];exact hk
theorem An3{b:P}{o:Nat}{K:Prop}:one (.ptr b o) K=K:=rfl
theorem Aol{p1 B q:P}{h:H}{tb:Tm}{n:Nat}{e:TypeId}{w:Bool}(s:List UInt8)(hp:h.at p1=rowOf 107 [.ptr B 0])(hB:h.at B=.row tb n 0 e w)(hn:4≤n)(hm:Bh tb 3=.map q)(hq:h.at q=.map Mf 44){k:KV}(hk:k (.bool (decide (s∈kws))) h):
 ld1 (.ptr p1 0) h fun v9=>oK (Ck v9 h) fun v10 h11=>Am 3 v10 fun v12=>ld1 v12 h11 fun v13=>oK (Hg env 94 v13 (.str s.length (enc s)) false h11) fun v14 h15=>asI .i64 v14 fun n16=>k (.bool (Cs (Int.ofNat 0) n16)) h15:=by
 refine Cz (t:=Ai [.ptr B 0] 0 .e) (n:=1) (z:=0) (e:=107) (w:=true) hp (by decide) ?_
 rw[show Bh (Ai [.ptr B 0] 0 .e) 0=.ptr B 0 by rw[Ar];rfl]
 rw[Bj,Ae,Av]
 refine Cz hB (by omega) ?_
 rw[show 0+3=3 from rfl,hm]
 refine Aza s hq ?_
 rw[Au,ilt]
 by_cases e:s∈kws
 · rw[if_pos e];rw[decide_eq_true e] at hk;exact hk
 · rw[if_neg e];rw[decide_eq_false e] at hk;exact hk
def Lv:List AV:=[.int .u32 (.ofNat 0),.int .i32 (.ofNat 0),.int .u32 (.ofNat 0),.Pw]
def Lo(q:P):List AV:=[.int .u32 (.ofNat 1),.int .i32 (.ofNat 0),.int .u32 (.ofNat 0),.map q]
def Bja(x1 x2 x3:AV):List (Ob FT):=[oA,.dead,.dead,.dead,.dead,.dead,.dead,.dead,.dead,.dead,.dead,.dead,.dead,.row (Ai (Lv++[x1,x2,x3]) 0 .e) 7 0 98 true,.dead,.dead,.dead]
def hsM(x1 x2 x3:AV):H:=Uo (Bja x1 x2 x3)
def TM(x1 x2 x3:AV):Tm:=Ai (Lo (pOf 18)++[x1,x2,x3]) 0 .e
theorem Ave(x1 x2 x3:AV):W1 (.func 74) [.ptr (pOf 13) 0,.func (.func 75) [] [.ptr (hsM x1 x2 x3).next 0]] ((hsM x1 x2 x3).new (rowOf 107 [.ptr (pOf 13) 0])) (fun _ h'=>h'.at (pOf 13)=.row (TM x1 x2 x3) 7 0 98 true∧h'.at (hsM x1 x2 x3).next=rowOf 107 [.ptr (pOf 13) 0]∧h'.at (pOf 18)=.map Mf 44):=by
 have e:calls 100000 100000 (.func 74) [.ptr (pOf 13) 0,.func (.func 75) [] [.ptr (hsM x1 x2 x3).next 0]] ((hsM x1 x2 x3).new (rowOf 107 [.ptr (pOf 13) 0])) (fun _ h'=>h'.at (pOf 13)=.row (TM x1 x2 x3) 7 0 98 true∧h'.at (hsM x1 x2 x3).next=rowOf 107 [.ptr (pOf 13) 0]∧h'.at (pOf 18)=.map Mf 44)
  =((.row (TM x1 x2 x3) 7 0 98 true:Ob FT)=.row (TM x1 x2 x3) 7 0 98 true∧(rowOf 107 [.ptr (pOf 13) 0]:Ob FT)=rowOf 107 [.ptr (pOf 13) 0]∧(.map Mf 44:Ob FT)=.map Mf 44):=by kernel_rfl
 exact Ahc (Kx 100000 100000) (e.mpr ⟨rfl,rfl,rfl⟩)
theorem Auh(x1 x2 x3:AV):(hsM x1 x2 x3).next=pOf 17:=rfl
theorem A0i{hs:H}{B q:P}{T:Tm}{n:Nat}{e:TypeId}{w:Bool}(s:List UInt8)
 (hd:W1 (.func 74) [.ptr B 0,.func (.func 75) [] [.ptr hs.next 0]] (hs.new (rowOf 107 [.ptr B 0])) (fun _ h'=>h'.at B=.row T n 0 e w∧h'.at hs.next=rowOf 107 [.ptr B 0]∧h'.at q=.map Mf 44)) (h3:Bh T 3=.map q) (hn:4≤n) {k:KV}
 (hk:∀h',h'.at B=.row T n 0 e w→h'.at q=.map Mf 44→k (.bool (decide (s∈kws))) h'):W1 (.func 43) [.ptr B 0,S s] hs k:=by
 refine w43 (n:=1) Bl (g43 ?_)
 unfold Ahm
 rw[An3]
 refine Ek ?_
 have a0:(hs.new (rowOf 107 [.ptr B 0])).at hs.next=rowOf 107 [.ptr B 0]:=Ay _ _
 refine Cz (t:=Ai [.ptr B 0] 0 .e) (n:=1) (z:=0) (e:=107) (w:=true) a0 (by decide) ?_
 rw[show Bh (Ai [.ptr B 0] 0 .e) 0=.ptr B 0 by rw[Ar];rfl]
 rw[Bj,Ae,Av]
 refine Tk hd fun _ h' hh=>?_
 obtain⟨a1,a2,a3⟩:=hh
 exact Aol s a2 a1 hn (q:=q) h3 a3 (hk h' a1 a3)
theorem Bmi(x1 x2 x3:AV):Bh (TM x1 x2 x3) 3=.map (pOf 18):=by unfold TM;rw[Ar];rfl
theorem Aqm(x1 x2 x3:AV)(s:List UInt8):W1 (.func 43) [.ptr (pOf 13) 0,S s] (hsM x1 x2 x3) (fun v h'=>v=.bool (decide (s∈kws))∧h'.at (pOf 13)=.row (TM x1 x2 x3) 7 0 98 true∧h'.at (pOf 18)=.map Mf 44):=
 A0i s (Ave x1 x2 x3) (Bmi x1 x2 x3) (by decide) fun _ a b=>⟨rfl,a,b⟩
def Sl(v:AV):Prop:=v=.Ad∨∃b o n z t,v=.slice b o n z t
def Xg(v:AV):P:=match v with
 |.slice b _ _ _ _=>b
 |_=>.z
def Apr(p:P)(v:AV):AV:=match v with
 |.slice _ o n z t=>.slice p o n z t
 |v=>v
theorem Sl.one{v:AV}(h:Sl v):v.one=true:=by
 rcases h with rfl|⟨_,_,_,_,_,rfl⟩<;>rfl
theorem Sl.ren{v:AV}(h:Sl v)(p:P):(Apr p v).one=true:=by
 rcases h with rfl|⟨_,_,_,_,_,rfl⟩<;>rfl
theorem Afi{μ μ':Mu}{p:P}{v:AV}(h:Sl v)(e:μ' p=μ (Xg v)){x:Value}(r:VR μ v x):VR μ' (Apr p v) x:=by
 rcases h with rfl|⟨b,o,n,z,t,rfl⟩
 · exact r
 · have e:μ' p=μ b:=e
   obtain⟨a,cap,e1,e2,⟨e3,l,e4⟩,e5⟩:=r
   refine⟨a,cap,e1,e2,⟨e3,l,by rw[e];exact e4⟩,e5.imp id fun⟨l',h1,h2⟩=>⟨l',by rw[e];exact h1,h2⟩⟩
theorem Zg{μ μ':Mu}{p:P}{v:AV}(h:Sl v)(e:∀l,μ (Xg v)=some l→μ' p=some l){x0 x:Value}(r0:VR μ v x0)(r:VR μ' (Apr p v) x):VR μ v x:=by
 rcases h with rfl|⟨b,o,n,z,t,rfl⟩
 · exact r
 · obtain⟨_,_,_,_,⟨_,l,e4⟩,_⟩:=r0
   have e':=e l e4
   obtain⟨a,cap,e1,e2,⟨e3,l1,e5⟩,e6⟩:=r
   refine⟨a,cap,e1,e2,⟨e3,l,e4⟩,e6.imp id fun⟨l',h1,h2⟩=>⟨l',?_,h2⟩⟩
   rw[e'] at h1;cases h1;exact e4
theorem Ls{i j:Nat}(h:i≠j):pOf i≠pOf j:=fun e=>h (by rw[←Dp i,←Dp j,e])
theorem A5j{x1 x2 x3:AV}{c:P}(h:(hsM x1 x2 x3).at c≠.dead):c=pOf 0∨c=pOf 13:=by
 unfold hsM at h
 rw[Kl] at h
 have:c.nat=0∨c.nat=13:=by
  match hn:c.nat with
  |0=>exact .inl rfl
  |13=>exact .inr rfl
  |1|2|3|4|5|6|7|8|9|10|11|12|14|15|16=>rw[hn] at h;exact absurd rfl h
  |n+17=>rw[hn] at h;exact absurd rfl h
 rcases this with e|e
 · left;rw[←e,Tx]
 · right;rw[←e,Tx]
theorem Bd4(x1 x2 x3:AV):(hsM x1 x2 x3).at (pOf 0)=oA:=by unfold hsM;rw[Kl,Dp];rfl
theorem A5k(x1 x2 x3:AV):(hsM x1 x2 x3).at (pOf 13)=.row (Ai (Lv++[x1,x2,x3]) 0 .e) 7 0 98 true:=by unfold hsM;rw[Kl,Dp];rfl
theorem Aok(x1 x2 x3:AV):(hsM x1 x2 x3).next.nat=17:=by rw[Auh,Dp]
def Is7(t:Tm)(l:List AV):Prop:=∀i,i<7→Bh t i=l.getD i .undef
theorem Ko(l:List AV)(hl:l.length=7)(t:Tm):Is7 (Ai l 0 t) l:=fun i hi=>by
 rw[Ar,if_pos ⟨Nat.zero_le _,by rw[hl];omega⟩,Nat.sub_zero]
theorem Aqn{h:H}{B:P}{tb:Tm}{y1 y2 y3:AV}(s:List UInt8)(he:Ly h)(hBn:12≤B.nat)(hB:h.at B=.row tb 7 0 98 true)(ht:Is7 tb (Lv++[y1,y2,y3]))(s1:Sl y1)(s2:Sl y2)(s3:Sl y3){k:KV}
 (hk:k (.bool (decide (s∈kws))) ((h.put B (.row (Ai (Lo h.next++[y1,y2,y3]) 0 .e) 7 0 98 true)).new (.map Mf 44))):W1 (.func 43) [.ptr B 0,S s] h k:=by
 let x1:=Apr (pOf 14) y1
 let x2:=Apr (pOf 15) y2
 let x3:=Apr (pOf 16) y3
 let ρ:P→P:=fun c=>if c=pOf 13 then B else if c=pOf 14 then Xg y1 else if c=pOf 15 then Xg y2 else if c=pOf 16 then Xg y3 else c
 have ρ13:ρ (pOf 13)=B:=if_pos rfl
 have ρ14:ρ (pOf 14)=Xg y1:=by show(if _ then _ else _)=_;rw[if_neg (Ls (by decide)),if_pos rfl]
 have ρ15:ρ (pOf 15)=Xg y2:=by show(if _ then _ else _)=_;rw[if_neg (Ls (by decide)),if_neg (Ls (by decide)),if_pos rfl]
 have ρ16:ρ (pOf 16)=Xg y3:=by show(if _ then _ else _)=_;rw[if_neg (Ls (by decide)),if_neg (Ls (by decide)),if_neg (Ls (by decide)),if_pos rfl]
 have ρo:∀i,i<13→ρ (pOf i)=pOf i:=fun i hi=>by show(if _ then _ else _)=_;rw[if_neg (Ls (by omega)),if_neg (Ls (by omega)),if_neg (Ls (by omega)),if_neg (Ls (by omega))]
 have lt:∀i,i<17→(pOf i).nat<(hsM x1 x2 x3).next.nat:=fun i hi=>by rw[Aok,Dp];exact hi
 have sub:∀(μ:Mu) i,i<17→μ.sub ρ (hsM x1 x2 x3) (pOf i)=μ (ρ (pOf i)):=fun μ i hi=>Mu.sub_lt (lt i hi)
 have tS:=Ko (Lv++[x1,x2,x3]) rfl .e
 have tD:=Ko (Lo (pOf 18)++[x1,x2,x3]) rfl .e
 have tB:=Ko (Lo h.next++[y1,y2,y3]) rfl .e
 refine Ax5 (sargs:=[.ptr (pOf 13) 0,S s]) (ρ:=ρ) (B:=B) (b0:=pOf 13) (iq:=3) (r:=.bool (decide (s∈kws))) (cs:=fun i=>Bh (TM x1 x2 x3) i) (tb':=Ai (Lo h.next++[y1,y2,y3]) 0 .e) hB (A5k x1 x2 x3) ?_ (lt 13 (by decide)) ρ13 ?_ ?_ ?_ ?_ rfl Akz (by decide) ?_ ?_ ?_ hk
 · intro c hc hd
   rcases A5j hd with rfl|rfl
   · refine⟨lt 0 (by decide),cA,256,Bd4 x1 x2 x3,?_,fun i _=>rfl⟩
     rw[ρo 0 (by decide)];exact he.1
   · exact absurd rfl hc
 · intro g hg
   have hg:g<12:=hg
   exact⟨ρo g (by omega),lt g (by omega)⟩
 · rintro μ vs ⟨w,ws,_,⟨l,hl,_⟩,_⟩
   exact⟨l,hl⟩
 · intro i hi μ v hv ho
   rw[ht i hi] at hv ho
   rw[tS i hi]
   match i,hi with
   |0,_=>exact⟨hv,rfl⟩
   |1,_=>exact⟨hv,rfl⟩
   |2,_=>exact⟨hv,rfl⟩
   |3,_=>exact⟨hv,rfl⟩
   |4,_=>exact⟨Afi s1 (by rw[sub _ 14 (by decide),ρ14]) hv,s1.ren _⟩
   |5,_=>exact⟨Afi s2 (by rw[sub _ 15 (by decide),ρ15]) hv,s2.ren _⟩
   |6,_=>exact⟨Afi s3 (by rw[sub _ 16 (by decide),ρ16]) hv,s3.ren _⟩
 · rintro μ vs ⟨w,ws,rfl,⟨l,hl,hw⟩,w2,ws2,rfl,h2,h3⟩
   exact⟨w,_,rfl,⟨l,by rw[sub _ 13 (by decide),ρ13];exact hl,hw⟩,w2,ws2,rfl,h2,h3⟩
 · rw[tB 3 (by decide)];rfl
 · intro i hi hne μ μ' v hle hv0 hv ho
   obtain⟨v0,hv0⟩:=hv0
   rw[ht i hi] at hv0
   have hv:VR μ' (Bh (TM x1 x2 x3) i) v:=hv
   rw[show Bh (TM x1 x2 x3) i=_ from tD i hi] at hv
   rw[tB i hi]
   have bk:∀j,j<17→∀l,μ (ρ (pOf j))=some l→μ' (pOf j)=some l:=fun j hj l hl=>hle _ _ (by rw[sub _ j hj];exact hl)
   match i,hi with
   |0,_=>exact⟨hv,rfl⟩
   |1,_=>exact⟨hv,rfl⟩
   |2,_=>exact⟨hv,rfl⟩
   |3,_=>exact absurd rfl hne
   |4,_=>exact⟨Zg s1 (fun l hl=>bk 14 (by decide) l (by rw[ρ14];exact hl)) hv0 hv,s1.one⟩
   |5,_=>exact⟨Zg s2 (fun l hl=>bk 15 (by decide) l (by rw[ρ15];exact hl)) hv0 hv,s2.one⟩
   |6,_=>exact⟨Zg s3 (fun l hl=>bk 16 (by decide) l (by rw[ρ16];exact hl)) hv0 hv,s3.one⟩
 · refine Tk (Aqm x1 x2 x3 s) fun v h' hh=>?_
   obtain⟨a1,a2,a3⟩:=hh
   refine⟨a1,TM x1 x2 x3,pOf 18,a2,by rw[Aok,Dp];decide,a3,?_,fun i _ _=>rfl⟩
   rw[show Bh (TM x1 x2 x3) 3=_ from tD 3 (by decide)];rfl
theorem Awm{h:H}{b:P}{o:Nat}{t:Tm}{n z:Nat}{e:TypeId}{w:Bool}{x:Int}(ha:h.at b=.row t n z e w)(ho:o<n)(hx:Bh t o=.int .u32 x):Hf (.Mt .u32) [.ptr b o] h=some (.int .u32 x,h):=by
 show Al6 .u32 (.ptr b o) h=_
 have hr:h.Tu b o=some (.int .u32 x):=by
  show Hp.Gp _ _ _ _ _=_
  unfold Hp.Gp
  rw[ha]
  show So o none some t n=_
  unfold So
  rw[show Nat.ble (Nat.add o 1) n=true from Nat.ble_eq_true_of_le ho]
  show Bw (Bh t o) some=_
  rw[By,hx]
 show Option.rec (motive:=fun _=>Option (AV×H)) none (fun v=>Option.rec (motive:=fun _=>Option (AV×H)) none (fun n=>some (AV.int IntKind.u32 n,h)) (isI IntKind.u32 v)) (Hp.Tu h b o)=_
 rw[hr];rfl
theorem Bl8{h:H}{b:P}{t:Tm}{n z:Nat}{e:TypeId}{w:Bool}{x:Nat}(ha:h.at b=.row t n z e w)(ho:0<n)(hx:Bh t 0=.int .u32 (.ofNat x)){k:KV}(hk:k (.bool (Da (decide (x=0)))) h):W1 (.func 122) [.ptr b 0] h k:=by
 refine Bai (n:=1) Bl (Bkn ?_)
 unfold Aez
 rw[Bj,Ae,Av]
 refine A9i (Cj rfl ?_)
 rw[show 0+0=0 from rfl,Awm ha ho hx,Ae,Au,Ru]
 exact hk
theorem Avz{h:H}{B q:P}{tb:Tm}{n:Nat}{e:TypeId}{w:Bool}(s:List UInt8)(hBn:B.nat<h.next.nat)(hqn:q.nat<h.next.nat)(hB:h.at B=.row tb n 0 e w)(hn:4≤n)(h0:Bh tb 0=.int .u32 (.ofNat 1))(h3:Bh tb 3=.map q)(hq:h.at q=.map Mf 44){k:KV}
 (hk:∀h',Exh h h'→k (.bool (decide (s∈kws))) h'):W1 (.func 43) [.ptr B 0,S s] h k:=by
 refine w43 (n:=1) Bl (g43 ?_)
 unfold Ahm
 rw[An3]
 refine Ek ?_
 have a0:(h.new (rowOf 107 [.ptr B 0])).at h.next=rowOf 107 [.ptr B 0]:=Ay _ _
 have x:Exh h (h.new (rowOf 107 [.ptr B 0])):=.new
 generalize h.new (rowOf 107 [.ptr B 0])=h' at a0 x ⊢
 refine Cz (t:=Ai [.ptr B 0] 0 .e) (n:=1) (z:=0) (e:=107) (w:=true) a0 (by decide) ?_
 rw[show Bh (Ai [.ptr B 0] 0 .e) 0=.ptr B 0 by rw[Ar];rfl]
 rw[Bj,Ae,Av]
 have hB':h'.at B=.row tb n 0 e w:=by rw[x.2 B hBn];exact hB
 refine w74 (n:=1) Bl (g74 ?_)
 unfold Amy
 rw[Bj,Ae,Av]
 refine Bl8 (x:=1) hB' (by omega) h0 ?_
 rw[Ce]
 refine Bo rfl ?_
 exact Aol s a0 hB' hn h3 (by rw[x.2 q hqn];exact hq) (hk h' x)
end Go.Den
noncomputable section
namespace Go.Den
open Go.RowKit
set_option maxRecDepth 100000
structure Db where
 kind:Int
 text:List UInt8
 space:Bool
 file:List UInt8
 f:Int
 t:Int
 made:Bool
 sites:AV
structure CT where
 kind:Nat
 text:List UInt8
 file:List UInt8
 f:Int
 t:Int
 frm:Nat
 cnt:Nat
structure DT where
 file:List UInt8
 f:Int
 t:Int
def Db.cells(x:Db):List AV:=[.int .i64 x.kind,S x.text,.bool x.space,S x.file,.int .i64 x.f,.int .i64 x.t,.bool x.made,x.sites]
def CT.cells(x:CT):List AV:=[.int .i64 (.ofNat x.kind),S x.text,S x.file,.int .i64 x.f,.int .i64 x.t,.int .i64 (.ofNat x.frm),.int .i64 (.ofNat x.cnt)]
def DT.cells(x:DT):List AV:=[.int .i64 (.ofNat 19),S x.file,.int .i64 x.f,.int .i64 x.t]
def Db.dt(x:Db):DT:=⟨x.file,x.f,x.t⟩
def Vy(s:List UInt8):Bool:=decide (s=[35])||decide (s=[37,58])||(decide (s=[35,35])||decide (s=[37,58,37,58]))
def Kq(s:List UInt8):Option (List UInt8):=
 if s=[60,58] then some [91] else if s=[58,62] then some [93] else if s=[60,37] then some [123] else if s=[37,62] then some [125] else if Vy s=true then none else some s
def Hx(x:Db):Option (Nat×List UInt8):=
 if x.kind=1 then(if x.text∈kws then some (2,x.text) else some (1,x.text))
 else if x.kind=2 then(if(Apv x.text).isSome=true then some (3,x.text) else if Wb x.text=true then some (4,x.text) else none)
 else if x.kind=3 then(if(Vf x.text).isSome=true then some (5,x.text) else none)
 else if x.kind=5 then(Kq x.text).map fun s=>(7,s)
 else none
structure GS where
 first:List UInt8
 told:Bool
 acc:List UInt8
 cnt:Nat
 used:Nat
 ds:List DT
def GS.add(g:GS)(x:Db)(b:List UInt8)(k:Nat):GS:=
 if(Bb x.text).1=[]∨(Bb x.text).1=g.first then{ g with acc:=g.acc++b,cnt:=g.cnt+1,used:=k }
 else if g.first=[] then{ g with first:=(Bb x.text).1,acc:=g.acc++b,cnt:=g.cnt+1,used:=k }
 else if g.told=true then{ g with acc:=g.acc++b,cnt:=g.cnt+1,used:=k }
 else{ g with told:=true,ds:=g.ds++[x.dt],acc:=g.acc++b,cnt:=g.cnt+1,used:=k }
def Ed:List Db→Nat→GS→GS
 |[],_,g=>g
 |x::l,k,g=>if x.kind=7 then Ed l (k+1) g else if x.kind=4 then(match Le x.text with
  |none=>g
  |some b=>Ed l (k+1) (g.add x b (k+1))) else g
def g0:GS:=⟨[],false,[],0,0,[]⟩
def Dk:List Db→Nat→Nat→List CT×List DT
 |[],i,_=>([⟨8,[],[],0,0,i,0⟩],[])
 |_::l,i,k+1=>Dk l (i+1) k
 |x::l,i,0=>
  if x.kind=4 then
   (if(Ed (x::l) 0 g0).cnt=0 then((Dk l (i+1) 0).1,x.dt::(Dk l (i+1) 0).2)
   else(⟨6,(Ed (x::l) 0 g0).first++Rr (Ed (x::l) 0 g0).acc,x.file,x.f,x.t,i,(Ed (x::l) 0 g0).cnt⟩::(Dk l (i+1) ((Ed (x::l) 0 g0).used-1)).1,(Ed (x::l) 0 g0).ds++(Dk l (i+1) ((Ed (x::l) 0 g0).used-1)).2))
  else if x.kind=7 then Dk l (i+1) 0
  else match Hx x with
   |none=>((Dk l (i+1) 0).1,x.dt::(Dk l (i+1) 0).2)
   |some p=>(⟨p.1,p.2,x.file,x.f,x.t,i,1⟩::(Dk l (i+1) 0).1,(Dk l (i+1) 0).2)
theorem Aax:∀(l:List Db)(i k:Nat),k≤l.length→Dk l i k=Dk (l.drop k) (i+k) 0
 |_,_,0,_=>rfl
 |[],_,_+1,h=>by simp at h
 |x::l,i,k+1,h=>by
  have:=Aax l (i+1) k (by simpa using h)
  rw[Dk,this,List.drop_succ_cons,show i+1+k=i+(k+1) by omega]
theorem GS.Agv(g:GS)(x:Db)(b:List UInt8)(k:Nat):(g.add x b k).cnt=g.cnt+1∧(g.add x b k).used=k∧(g.add x b k).acc=g.acc++b∧(g.add x b k).ds.length≤g.ds.length+1:=by
 unfold GS.add
 split
 · exact⟨rfl,rfl,rfl,Nat.le_succ _⟩
 · split
   · exact⟨rfl,rfl,rfl,Nat.le_succ _⟩
   · split
     · exact⟨rfl,rfl,rfl,Nat.le_succ _⟩
     · exact⟨rfl,rfl,rfl,by simp⟩
theorem Qb:∀(l:List Db)(k:Nat)(g:GS),g.used≤k→g.cnt≤k→g.ds.length≤k→(g.cnt≠0→0<g.used)→(Ed l k g).used≤k+l.length∧(Ed l k g).cnt≤k+l.length∧(Ed l k g).ds.length≤k+l.length∧((Ed l k g).cnt≠0→0<(Ed l k g).used)
 |[],k,g,h1,h2,h3,h4=>⟨h1,h2,h3,h4⟩
 |x::l,k,g,h1,h2,h3,h4=>by
  unfold Ed
  split
  · have:=Qb l (k+1) g (by omega) (by omega) (by omega) h4
    simp only[List.length_cons];omega
  · split
    · split
      · simp only[List.length_cons];omega
      · rename_i b _
        obtain⟨a1,a2,a3,a4⟩:=g.Agv x b (k+1)
        have:=Qb l (k+1) (g.add x b (k+1)) (by omega) (by omega) (by omega) (by omega)
        simp only[List.length_cons];omega
    · simp only[List.length_cons];omega
def Z40:Tm:=Ai [.int .i64 (.ofNat 0),.str 0 0,.str 0 0,.int .i64 (.ofNat 0),.int .i64 (.ofNat 0),.int .i64 (.ofNat 0),.int .i64 (.ofNat 0)] 0 .e
def Z48:Tm:=Ai [.int .i64 (.ofNat 0),.str 0 0,.int .i64 (.ofNat 0),.int .i64 (.ofNat 0)] 0 .e
theorem A13(a b c d e f g:AV)(h:H):Ao env 25 (fun e' ei=>Ak 1 [(0,.agg [a,b,c,d,e,f,g])] h e' ei)=some (.slice h.next 0 1 7 true,h.new (.row (Ai [a,b,c,d,e,f,g] 0 Z40) 7 0 40 true)):=by kernel_rfl
theorem A12(a b c d:AV)(h:H):Ao env 26 (fun e' ei=>Ak 1 [(0,.agg [a,b,c,d])] h e' ei)=some (.slice h.next 0 1 4 true,h.new (.row (Ai [a,b,c,d] 0 Z48) 4 0 48 true)):=by kernel_rfl
theorem A2c(x y:AV)(h:H):Aq env .append [25,25] [x,y] h=Dc (some false) x y h 40 (Pa 40):=by kernel_rfl
theorem A2b(x y:AV)(h:H):Aq env .append [26,26] [x,y] h=Dc (some false) x y h 48 (Pa 48):=by kernel_rfl
theorem Bbw:(Pa 40).size=7:=by kernel_rfl
theorem Bbv:(Pa 48).size=4:=by kernel_rfl
theorem Auq{n:Nat}(hn:n≤1099511627776):Cf (Pa 40) n=true:=We (by kernel_rfl) (by kernel_rfl) hn
theorem Aup{n:Nat}(hn:n≤1099511627776):Cf (Pa 48) n=true:=We (by kernel_rfl) (by kernel_rfl) hn
theorem Bd9(l c:Nat)(a b:Int)(h:H):Bp env (env.ty 48) [(0,(.int .i64 (Int.ofNat 19))),(1,.agg [.str l c,.int .i64 a,.int .i64 b])] h=some (.agg [.int .i64 (.ofNat 19),.str l c,.int .i64 a,.int .i64 b],h):=by kernel_rfl
theorem Beb(kk:Int)(l c l' c':Nat)(a b i n:Int)(h:H):Bp env (env.ty 40) [(0,(.int .i64 kk)),(1,(.str l' c')),(2,.agg [.str l c,.int .i64 a,.int .i64 b]),(3,(.int .i64 i)),(4,(.int .i64 n))] h=some (.agg [.int .i64 kk,.str l' c',.str l c,.int .i64 a,.int .i64 b,.int .i64 i,.int .i64 n],h):=by kernel_rfl
theorem A50(i:Int)(h:H):Bp env (env.ty 40) [(0,(.int .i64 (Int.ofNat 8))),(3,(.int .i64 i))] h=some (.agg [.int .i64 (.ofNat 8),.str 0 0,.str 0 0,.int .i64 (.ofNat 0),.int .i64 (.ofNat 0),.int .i64 i,.int .i64 (.ofNat 0)],h):=by kernel_rfl
theorem A5z(l c:Nat)(a b i:Int)(h:H):Bp env (env.ty 40) [(0,(.int .i64 (Int.ofNat 6))),(2,.agg [.str l c,.int .i64 a,.int .i64 b]),(3,(.int .i64 i))] h=some (.agg [.int .i64 (.ofNat 6),.str 0 0,.str l c,.int .i64 a,.int .i64 b,.int .i64 i,.int .i64 (.ofNat 0)],h):=by kernel_rfl
theorem Bd7(v:AV)(hv:Sl v)(h:H):Bp env (env.ty 98) [(1,v)] h=some (.agg (Lv++[v,.Ad,.Ad]),h):=by
 rcases hv with rfl|⟨b,o,n,z,t,rfl⟩
 · kernel_rfl
 · kernel_rfl
def WD(lo:Nat)(h:H)(W:List AV):Prop:=W=Lv∨∃q,W=Lo q∧q.nat<h.next.nat∧lo≤q.nat∧h.at q=.map Mf 44
theorem WD.len{lo:Nat}{h:H}{W:List AV}(hw:WD lo h W):W.length=4:=by
 rcases hw with rfl|⟨q,rfl,_⟩<;>rfl
theorem Is7.Bi2{t:Tm}{W:List AV}{a b c c':AV}(hw:W.length=4)(ht:Is7 t (W++[a,b,c])):Is7 (Ai [c'] (0+6) t) (W++[a,b,c']):=by
 match W,hw with
 |[w0,w1,w2,w3],_=>
  intro i hi
  rw[Ar]
  by_cases e:i=6
  · subst e;rw[if_pos (by simp)];rfl
  · rw[if_neg (by simp;omega),ht i hi]
    match i,hi,e with
    |0,_,_|1,_,_|2,_,_|3,_,_|4,_,_|5,_,_=>rfl
    |6,_,e=>exact absurd rfl e
theorem Is7.Bi3{t:Tm}{W:List AV}{a b c b':AV}(hw:W.length=4)(ht:Is7 t (W++[a,b,c])):Is7 (Ai [b'] (0+5) t) (W++[a,b',c]):=by
 match W,hw with
 |[w0,w1,w2,w3],_=>
  intro i hi
  rw[Ar]
  by_cases e:i=5
  · subst e;rw[if_pos (by simp)];rfl
  · rw[if_neg (by simp;omega),ht i hi]
    match i,hi,e with
    |0,_,_|1,_,_|2,_,_|3,_,_|4,_,_|6,_,_=>rfl
    |5,_,e=>exact absurd rfl e
theorem Is7.g4{t:Tm}{W:List AV}{a b c:AV}(hw:W.length=4)(ht:Is7 t (W++[a,b,c])):Bh t (0+4)=a∧Bh t (0+5)=b∧Bh t (0+6)=c:=by
 match W,hw with
 |[w0,w1,w2,w3],_=>exact⟨ht 4 (by decide),ht 5 (by decide),ht 6 (by decide)⟩
def Mk(Y:AV→Prop)(lo:Nat)(B:P)(vL:AV)(O:List CT)(D:List DT)(h:H):Prop:=
 ∃tb y2 y3 W,h.at B=.row tb 7 0 98 true∧B.nat<h.next.nat∧lo≤B.nat∧Is7 tb (W++[vL,y2,y3])∧WD lo h W∧Cv 40 7 lo h y2 (O.map CT.cells)∧Cv 48 4 lo h y3 (D.map DT.cells)∧Y y2
theorem Mk.hlo{Y:AV→Prop}{lo:Nat}{B:P}{vL:AV}{O:List CT}{D:List DT}{h:H}(m:Mk Y lo B vL O D h):lo≤h.next.nat:=by
 obtain⟨_,_,_,_,_,h1,h2,_⟩:=m;omega
theorem WD.mono{lo:Nat}{h h':H}{W:List AV}(hw:WD lo h W)(hn:h.next.nat≤h'.next.nat)(hf:∀q,q.nat<h.next.nat→h.at q=.map Mf 44→h'.at q=h.at q):WD lo h' W:=by
 rcases hw with rfl|⟨q,rfl,a,b,c⟩
 · exact .inl rfl
 · exact .inr ⟨q,rfl,by omega,b,by rw[hf q a c];exact c⟩
theorem Mk.mono{Y:AV→Prop}{lo:Nat}{B:P}{vL:AV}{O:List CT}{D:List DT}{h h':H}(m:Mk Y lo B vL O D h)(hn:h.next.nat≤h'.next.nat)(hf:∀c,c.nat<h.next.nat→lo≤c.nat→((∃t m z w,h.at c=.row t m z 98 w)∨((∃t m z w,h.at c=.row t m z 40 w)∧∃o n z b,Y (.slice c o n z b))∨(∃t m z w,h.at c=.row t m z 48 w)∨h.at c=.map Mf 44)→h'.at c=h.at c):Mk Y lo B vL O D h':=by
 obtain⟨tb,y2,y3,W,a1,a2,a3,a4,a5,a6,a7,a8⟩:=m
 refine⟨tb,y2,y3,W,by rw[hf B a2 a3 (.inl ⟨_,_,_,_,a1⟩)];exact a1,by omega,a3,a4,?_,?_,?_,a8⟩
 · rcases a5 with rfl|⟨q,rfl,a,b,c⟩
   · exact .inl rfl
   · exact .inr ⟨q,rfl,by omega,b,by rw[hf q a b (.inr (.inr (.inr c)))];exact c⟩
 · rcases a6 with⟨rfl,e⟩|⟨q,t,m,z,w,rfl,b1,b2,b3,b4⟩
   · exact .inl ⟨rfl,e⟩
   · exact .inr ⟨q,t,m,z,w,rfl,b1,by omega,by rw[hf q b2 b1 (.inr (.inl ⟨⟨_,_,_,_,b3⟩,_,_,_,_,a8⟩))];exact b3,b4⟩
 · exact a7.frame hn fun c hc h1 t m z w ha=>hf c hc h1 (.inr (.inr (.inl ⟨t,m,z,w,ha⟩)))
theorem Mk.ext{Y:AV→Prop}{lo:Nat}{B:P}{vL:AV}{O:List CT}{D:List DT}{h h':H}(m:Mk Y lo B vL O D h)(x:Exh h h'):Mk Y lo B vL O D h':=m.mono x.1 fun c hc _ _=>x.2 c hc
def FrK(e:TypeId)(lo:Nat)(B:P)(h h':H):Prop:=h.next.nat≤h'.next.nat∧∀c,c.nat<h.next.nat→c≠B→(c.nat<lo∨∀t m z w,h.at c≠.row t m z e w)→h'.at c=h.at c
theorem c36{Y:AV→Prop}{lo:Nat}{B:P}{vL:AV}{O:List CT}{D:List DT}{h:H}{x:DT}(m:Mk Y lo B vL O D h)(hl:D.length+1≤1099511627776){k:KV}(hk:∀h',Mk Y lo B vL O (D++[x]) h'→FrK 48 lo B h h'→k (.tuple []) h'):W1 (.func 36) [.ptr B 0,.agg [S x.file,.int .i64 x.f,.int .i64 x.t]] h k:=by
 refine w36 (n:=1) Bl (g36 ?_)
 unfold Ani
 rw[Xh]
 refine Aaz (by simp) (Ek ?_)
 have at1:AtP (h.new (rowOf 38 [S x.file,.int .i64 x.f,.int .i64 x.t])) h.next 0 [S x.file,.int .i64 x.f,.int .i64 x.t]:=AtP.newRow
 have x1:Exh h (h.new (rowOf 38 [S x.file,.int .i64 x.f,.int .i64 x.t])):=.new
 generalize h.new (rowOf 38 [S x.file,.int .i64 x.f,.int .i64 x.t])=h1 at at1 x1 ⊢
 have m1:=m.ext x1
 obtain⟨tb,y2,y3,W,a1,a2,a3,a4,a5,a6,a7,a8⟩:=m1
 rw[Bj,Ae,Av]
 refine Cz a1 (by decide) ?_
 rw[(a4.g4 a5.len).2.2]
 refine at1.ldn (cs:=[S x.file,.int .i64 x.f,.int .i64 x.t]) rfl ?_
 rw[Bd9,Ae,A12,Ae]
 have x2:Exh h1 (h1.new (.row (Ai [.int .i64 (.ofNat 19),S x.file,.int .i64 x.f,.int .i64 x.t] 0 Z48) 4 0 48 true)):=.new
 have a1':(h1.new (.row (Ai [.int .i64 (.ofNat 19),S x.file,.int .i64 x.f,.int .i64 x.t] 0 Z48) 4 0 48 true)).at B=.row tb 7 0 98 true:=by rw[x2.2 B a2];exact a1
 refine Cz a1' (by decide) ?_
 rw[(a4.g4 a5.len).2.2,Aaw a7.sl,A2b]
 have hlo:lo≤h1.next.nat:=by omega
 refine Ao8 (ds:=DT.cells x) (a7.ext x2) rfl Bbv (Aup (by rw[List.length_map];exact hl)) (by rw[Be];omega) rfl rfl fun v' h3 b3 x3=>?_
 have hBn:B.nat<(h1.new (.row (Ai [.int .i64 (.ofNat 19),S x.file,.int .i64 x.f,.int .i64 x.t] 0 Z48) 4 0 48 true)).next.nat:=by rw[Be];omega
 have a1'':h3.at B=.row tb 7 0 98 true:=by rw[x3.2 B hBn (.inr fun t m z w e=>by rw[a1'] at e;cases e)];exact a1'
 have n3:=x3.1
 have n2:=x2.1
 have n1:=x1.1
 rw[Bj,Ae,Av]
 refine Ph a1'' (Nat.zero_le _) (by decide) b3.one ?_
 refine hk _ ⟨_,y2,v',W,Bk _ _ _,by rw[Dl];omega,a3,a4.Bi2 a5.len,?_,?_,?_,a8⟩ ⟨by rw[Dl];omega,fun c hc hcB hh=>?_⟩
 · refine a5.mono (by rw[Dl];omega) fun q hq hm=>?_
   rw[Cd (fun e=>by subst e;rw[a1] at hm;cases hm),x3.2 q (by omega) (.inr fun t m z w e=>by rw[x2.2 q hq,hm] at e;cases e),x2.2 q hq]
 · refine(a6.ext x2).frame (by rw[Dl];omega) fun q hq h1 t m z w e=>?_
   rw[Cd (fun e'=>by subst e';rw[a1'] at e;cases e),x3.2 q hq (.inr fun t m z w e'=>by rw[e] at e';cases e')]
 · rw[List.map_append]
   exact b3.frame (Nat.le_refl _) fun q hq h1 t m z w e=>Cd fun e'=>by subst e';rw[a1''] at e;cases e
 · rw[Cd hcB,x3.2 c (by omega) (hh.imp id fun hh t m z w=>by rw[x2.2 c (by omega),x1.2 c hc];exact hh t m z w),x2.2 c (by omega),x1.2 c hc]
def FrO(B:P)(h h':H):Prop:=h.next.nat≤h'.next.nat∧∀c,c.nat<h.next.nat→c≠B→h'.at c=h.at c
theorem Blm{Y:AV→Prop}{lo:Nat}{B:P}{vL:AV}{O:List CT}{D:List DT}{h:H}(s:List UInt8)(he:Ly h)(m:Mk Y lo B vL O D h)(hL:Sl vL)(hlo:12≤lo){k:KV}(hk:∀h',Mk Y lo B vL O D h'→FrO B h h'→k (.bool (decide (s∈kws))) h'):W1 (.func 43) [.ptr B 0,S s] h k:=by
 obtain⟨tb,y2,y3,W,a1,a2,a3,a4,a5,a6,a7,a8⟩:=m
 rcases a5 with rfl|⟨q,rfl,b1,b2,b3⟩
 · refine Aqn s he (by omega) a1 a4 hL a6.sl a7.sl ?_
   have f:∀c,c.nat<h.next.nat→c≠B→((h.put B (.row (Ai (Lo h.next++[vL,y2,y3]) 0 .e) 7 0 98 true)).new (.map Mf 44)).at c=h.at c:=fun c hc hcB=>by
    rw[Dd (show c.nat<(h.put B (.row (Ai (Lo h.next++[vL,y2,y3]) 0 .e) 7 0 98 true)).next.nat from hc),Cd hcB]
   have nn:((h.put B (.row (Ai (Lo h.next++[vL,y2,y3]) 0 .e) 7 0 98 true)).new (.map Mf 44)).next.nat=h.next.nat+1:=Be
   refine hk _ ⟨Ai (Lo h.next++[vL,y2,y3]) 0 .e,y2,y3,Lo h.next,?_,by rw[nn];omega,a3,Ko _ rfl _,.inr ⟨h.next,rfl,by rw[nn];omega,by omega,Ay (h.put B (.row (Ai (Lo h.next++[vL,y2,y3]) 0 .e) 7 0 98 true)) _⟩,?_,?_,a8⟩ ⟨by rw[nn];omega,fun c hc hcB=>f c hc hcB⟩
   · rw[Dd (show B.nat<(h.put B (.row (Ai (Lo h.next++[vL,y2,y3]) 0 .e) 7 0 98 true)).next.nat from a2),Bk]
   · exact a6.frame (by rw[nn];omega) fun c hc _ t m z w e=>f c hc fun e'=>by subst e';rw[a1] at e;cases e
   · exact a7.frame (by rw[nn];omega) fun c hc _ t m z w e=>f c hc fun e'=>by subst e';rw[a1] at e;cases e
 · refine Avz s a2 b1 a1 (by decide) ?_ ?_ b3 fun h' x=>hk h' ?_ ⟨x.1,fun c hc _=>x.2 c hc⟩
   · rw[a4 0 (by decide)];rfl
   · rw[a4 3 (by decide)];rfl
   · exact Mk.ext ⟨tb,y2,y3,Lo q,a1,a2,a3,a4,.inr ⟨q,rfl,b1,b2,b3⟩,a6,a7,a8⟩ x
section
variable{h:H}{q:P}{K:AV→Prop}{x:Db}
theorem AtP.kd(ha:AtP h q 0 x.cells)(hk:K (.int .i64 x.kind)):Go.Den.ld1 (.ptr q (0+0)) h K:=ha.ld1 (j:=0) (by show 0<8;decide) hk
theorem AtP.tx(ha:AtP h q 0 x.cells)(hk:K (S x.text)):Go.Den.ld1 (.ptr q (0+1)) h K:=ha.ld1 (j:=1) (by show 1<8;decide) hk
theorem AtP.sp(ha:AtP h q 0 x.cells)(hk:K (.agg [S x.file,.int .i64 x.f,.int .i64 x.t])):Go.Den.ldn 3 (.ptr q (0+3)) h K:=ha.Atq (j:=3) (by show 3+3≤8;decide) hk
theorem AtP.tok(ha:AtP h q 0 x.cells)(hk:K (.agg x.cells)):Go.Den.ldn 8 (.ptr q 0) h K:=ha.ldn rfl hk
end
theorem Aai(a:Int)(n:Nat):Ba a (Int.ofNat n)=decide (a=(n:Int)):=by
 rw[Fi];rfl
theorem Bge{h:H}(x:Db)(t:List UInt8){k:KV}(hk:∀h',Exh h h'→k (.bool (decide (x.kind=5)&&decide (x.text=t))) h'):W1 (.func 136) [.agg x.cells,S t] h k:=by
 refine A98 (n:=1) Bl (Bkd ?_)
 unfold Aej
 rw[Xh]
 refine Aaz (by unfold Db.cells;simp) (Ek ?_)
 have at1:AtP (h.new (rowOf 43 x.cells)) h.next 0 x.cells:=AtP.newRow
 have x1:Exh h (h.new (rowOf 43 x.cells)):=.new
 generalize h.new (rowOf 43 x.cells)=h1 at at1 x1 ⊢
 rw[Av]
 refine at1.kd ?_
 rw[Au]
 refine Lb (b:=decide (x.text=t)) (fun k' hk'=>?_) ?_
 · rw[Av]
   refine at1.tx ?_
   rw[Cl,Df];exact hk'
 rw[Aai];exact hk h1 x1
theorem Qt{s t:List UInt8}{l c:Nat}(hl:t.length=l)(hc:enc t=c):Bm s.length (enc s) l c=decide (s=t):=by
 subst hl hc;exact Df
theorem A07{h:H}{Q:(Bool→H→Prop)→Prop}{k:Bool→H→Prop}(hq:Q k):An (fun k1=>gate false false (Q k1) (k1 true h)) k:=hq
theorem c119{h:H}(x:Db){k:KV}(hk:∀h',Exh h h'→k (.bool (decide (x.kind=5)&&(decide (x.text=[35])||decide (x.text=[37,58])))) h'):W1 (.func 119) [.agg x.cells] h k:=by
 refine Bak (n:=1) Bl (Bkp ?_)
 unfold Ae1
 rw[Xh]
 refine Aaz (by unfold Db.cells;simp) (Ek ?_)
 have at1:AtP (h.new (rowOf 43 x.cells)) h.next 0 x.cells:=AtP.newRow
 have x1:Exh h (h.new (rowOf 43 x.cells)):=.new
 generalize h.new (rowOf 43 x.cells)=h1 at at1 x1 ⊢
 rw[Av]
 refine at1.kd ?_
 rw[Au]
 refine Lb (b:=(decide (x.text=[35])||decide (x.text=[37,58]))) (fun k' hk'=>?_) ?_
 · rw[Av]
   refine at1.tx ?_
   rw[Cl,Qt (t:=[35]) (l:=1) (c:=35) rfl rfl]
   refine Rt (b:=decide (x.text=[37,58])) (fun k'' hk''=>?_) hk'
   rw[Av]
   refine at1.tx ?_
   rw[Cl,Qt (t:=[37,58]) (l:=2) (c:=14885) rfl rfl];exact hk''
 rw[Aai];exact hk h1 x1
theorem Bl9{h:H}(x:Db){k:KV}(hk:∀h',Exh h h'→k (.bool (decide (x.kind=5)&&(decide (x.text=[35,35])||decide (x.text=[37,58,37,58])))) h'):W1 (.func 120) [.agg x.cells] h k:=by
 refine Baj (n:=1) Bl (Bko ?_)
 unfold Ae0
 rw[Xh]
 refine Aaz (by unfold Db.cells;simp) (Ek ?_)
 have at1:AtP (h.new (rowOf 43 x.cells)) h.next 0 x.cells:=AtP.newRow
 have x1:Exh h (h.new (rowOf 43 x.cells)):=.new
 have n1:h.next.nat<(h.new (rowOf 43 x.cells)).next.nat:=by rw[Be];omega
 generalize h.new (rowOf 43 x.cells)=h1 at at1 x1 n1 ⊢
 refine at1.tok ?_
 refine Bge x [35,35] fun h2 x2=>?_
 rw[Ce]
 by_cases e:(decide (x.kind=5)&&decide (x.text=[35,35]))=true
 · rw[e]
   have e2:(decide (x.kind=5)&&(decide (x.text=[35,35])||decide (x.text=[37,58,37,58])))=true:=by
    simp only[Bool.and_eq_true,Bool.or_eq_true,decide_eq_true_eq] at e ⊢
    exact⟨e.1,.inl e.2⟩
   have:=hk h2 (x1.trans x2)
   rw[e2] at this;exact this
 · have e':(decide (x.kind=5)&&decide (x.text=[35,35]))=false:=by simpa using e
   rw[e']
   refine A07 ((at1.ext x2 n1).tok ?_)
   refine Bge x [37,58,37,58] fun h3 x3=>?_
   rw[Ce]
   have e2:(decide (x.kind=5)&&(decide (x.text=[35,35])||decide (x.text=[37,58,37,58])))=(decide (x.kind=5)&&decide (x.text=[37,58,37,58])):=by
    by_cases a:x.kind=5
    · rw[decide_eq_true a] at e' ⊢
      simp only[Bool.true_and] at e' ⊢
      rw[e',Bool.false_or]
    · rw[decide_eq_false a];rfl
   have:=hk h3 ((x1.trans x2).trans x3)
   rw[e2] at this;exact this
def Pg(s:List UInt8):List UInt8:=(Kq s).getD []
theorem c67{h:H}(x:Db)(h5:x.kind=5){k:KV}(hk:∀h',Exh h h'→k (S (Pg x.text)) h'):W1 (.func 67) [.agg x.cells] h k:=by
 refine w67 (n:=1) Bl (g67 ?_)
 unfold Amz
 rw[Xh]
 refine Aaz (by unfold Db.cells;simp) (Ek ?_)
 have at1:AtP (h.new (rowOf 43 x.cells)) h.next 0 x.cells:=AtP.newRow
 have x1:Exh h (h.new (rowOf 43 x.cells)):=.new
 have n1:h.next.nat<(h.new (rowOf 43 x.cells)).next.nat:=by rw[Be];omega
 generalize h.new (rowOf 43 x.cells)=h1 at at1 x1 n1 ⊢
 unfold Pg Kq at hk
 rw[Av]
 refine at1.tx ?_
 rw[Cl,Qt (t:=[60,58]) (l:=2) (c:=14908) rfl rfl,Qt (t:=[58,62]) (l:=2) (c:=15930) rfl rfl,Qt (t:=[60,37]) (l:=2) (c:=9532) rfl rfl,Qt (t:=[37,62]) (l:=2) (c:=15909) rfl rfl]
 refine Az (fun e=>?_) (fun e=>?_)
 · rw[if_pos (of_decide_eq_true e)] at hk;exact hk h1 x1
 rw[if_neg (of_decide_eq_false e)] at hk
 refine Az (fun e=>?_) (fun e=>?_)
 · rw[if_pos (of_decide_eq_true e)] at hk;exact hk h1 x1
 rw[if_neg (of_decide_eq_false e)] at hk
 refine Az (fun e=>?_) (fun e=>?_)
 · rw[if_pos (of_decide_eq_true e)] at hk;exact hk h1 x1
 rw[if_neg (of_decide_eq_false e)] at hk
 refine Az (fun e=>?_) (fun e=>?_)
 · rw[if_pos (of_decide_eq_true e)] at hk;exact hk h1 x1
 rw[if_neg (of_decide_eq_false e)] at hk
 refine at1.tok ?_
 refine c119 x fun h2 x2=>?_
 have x12:=x1.trans x2
 rw[Ce,decide_eq_true h5,Bool.true_and]
 have fin:∀h3,Exh h1 h3→cnd (Vy x.text) (k (.str 0 0) h3) (Am 1 (.ptr h.next 0) fun v19=>ld1 v19 h3 fun v20=>asS v20 fun l21 c22=>k (.str l21 c22) h3):=fun h3 x3=>by
  refine Az (fun e=>?_) (fun e=>?_)
  · rw[if_pos e] at hk;exact hk h3 (x1.trans x3)
  · rw[if_neg (by rw[e];decide)] at hk
    rw[Av]
    refine(at1.ext x3 n1).tx ?_
    exact Cl.mpr (hk h3 (x1.trans x3))
 by_cases e:(decide (x.text=[35])||decide (x.text=[37,58]))=true
 · rw[e]
   have:=fin h2 x2
   rw[show Vy x.text=true by unfold Vy;rw[e];rfl] at this
   exact this
 · have e':(decide (x.text=[35])||decide (x.text=[37,58]))=false:=by simpa using e
   rw[e']
   refine A07 ((at1.ext x2 n1).tok ?_)
   refine Bl9 x fun h3 x3=>?_
   rw[Ce,decide_eq_true h5,Bool.true_and]
   have:=fin h3 (x2.trans x3)
   rw[show Vy x.text=(decide (x.text=[35,35])||decide (x.text=[37,58,37,58])) by unfold Vy;rw[e',Bool.false_or]] at this
   exact this
theorem FrO.exh{B:P}{h h':H}(x:Exh h h'):FrO B h h':=⟨x.1,fun c hc _=>x.2 c hc⟩
theorem Aj3(s:List UInt8):(Kq s).isNone=(Da (Da (decide (Pg s=[])))&&Da (decide (s=[]))):=by
 unfold Pg
 cases e:Kq s with
 |none=>
  have:s≠[]:=fun e'=>by subst e';exact absurd e (by decide)
  simp[Br,this]
 |some u=>
  have:u=[]→s=[]:=fun e'=>by
   subst e'
   unfold Kq at e
   split at e
   · exact absurd e (by decide)
   · split at e
     · exact absurd e (by decide)
     · split at e
       · exact absurd e (by decide)
       · split at e
         · exact absurd e (by decide)
         · split at e
           · cases e
           · cases e;rfl
  simp only[Option.isNone_some,Option.getD_some,Br,Bool.not_not]
  by_cases a:u=[]
  · simp[a,this a]
  · simp[a]
def Aio(p:Option (Nat×List UInt8)):AV:=match p with
 |none=>.tuple [.int .i64 (.ofNat 0),.str 0 0]
 |some p=>.tuple [.int .i64 (.ofNat p.1),.str p.2.length (enc p.2)]
theorem A36(o:Option (Nat×Bool)):∃a b,Afq o=.tuple [.agg [.int .u64 a,.bool b],.bool o.isSome]:=by
 cases o with
 |none=>exact⟨_,_,rfl⟩
 |some p=>exact⟨_,_,rfl⟩
theorem Az9(o:Option (Int×Bool)):∃a b,Avo o=.tuple [.agg [.int .u64 a,.bool b],.bool o.isSome]:=by
 cases o with
 |none=>exact⟨_,_,rfl⟩
 |some p=>exact⟨_,_,rfl⟩
theorem c35{Y:AV→Prop}{lo:Nat}{B:P}{vL:AV}{O:List CT}{D:List DT}{h:H}(x:Db)(hx:x.text.length≤1000000)(he:Ly h)(m:Mk Y lo B vL O D h)(hL:Sl vL)(hlo:13≤lo){k:KV}(hk:∀h',Mk Y lo B vL O D h'→FrO B h h'→k (Aio (Hx x)) h'):W1 (.func 35) [.ptr B 0,.agg x.cells] h k:=by
 refine w35 (n:=1) Bl (g35 ?_)
 unfold Anj
 rw[Xh]
 refine Aaz (by unfold Db.cells;simp) (Ek ?_)
 have at1:AtP (h.new (rowOf 43 x.cells)) h.next 0 x.cells:=AtP.newRow
 have x1:Exh h (h.new (rowOf 43 x.cells)):=.new
 have n1:h.next.nat<(h.new (rowOf 43 x.cells)).next.nat:=by rw[Be];omega
 have he1:Ly (h.new (rowOf 43 x.cells)):=he.new
 generalize h.new (rowOf 43 x.cells)=h1 at at1 x1 n1 he1 ⊢
 have m1:=m.ext x1
 have hm:=m
 obtain⟨tb,y2,y3,W,a1,a2,a3,_⟩:=hm
 unfold Hx at hk
 rw[Av]
 refine at1.kd ?_
 rw[Au,Aai,Aai,Aai,Aai]
 have hne:h.next≠B:=fun e=>by rw[←e] at a2;omega
 refine Az (fun e=>?_) (fun e=>?_)
 · rw[if_pos (show x.kind=1 from of_decide_eq_true e)] at hk
   rw[Bj,Ae,Hl,Av]
   refine at1.tx ?_
   rw[Cl]
   refine Blm x.text he1 m1 hL (by omega) fun h2 m2 f2=>?_
   have at2:AtP h2 h.next 0 x.cells:=at1.frame (f2.2 _ n1 hne)
   have fr:FrO B h h2:=⟨Nat.le_trans x1.1 f2.1,fun c hc hcB=>by rw[f2.2 c (Nat.lt_of_lt_of_le hc x1.1) hcB,x1.2 c hc]⟩
   rw[Ce]
   refine Az (fun e2=>?_) (fun e2=>?_)
   · rw[if_pos (of_decide_eq_true e2)] at hk
     rw[Av]
     refine at2.tx ?_
     exact Cl.mpr (hk h2 m2 fr)
   · rw[if_neg (of_decide_eq_false e2)] at hk
     rw[Av]
     refine at2.tx ?_
     exact Cl.mpr (hk h2 m2 fr)
 rw[if_neg (show¬x.kind=1 from of_decide_eq_false e)] at hk
 refine Az (fun e=>?_) (fun e=>?_)
 · rw[if_pos (show x.kind=2 from of_decide_eq_true e)] at hk
   rw[Av]
   refine at1.tx ?_
   rw[Cl]
   obtain⟨na,nb,hnv⟩:=A36 (Apv x.text)
   refine Acg (c64 x.text (by omega)) rfl (by rw[hnv];rfl) he1 ?_
   rw[hnv,Ep,Ez,Ce]
   refine Ek ?_
   refine Zv (e:=55) (zs:=[(.int .u64 (Int.ofNat 0)),(.bool false)]) rfl rfl (by decide) fun h2 x2 _ _=>?_
   have at2:=at1.ext x2 n1
   have m2:=m1.ext x2
   have fr:FrO B h h2:=FrO.exh (x1.trans x2)
   refine Az (fun e2=>?_) (fun e2=>?_)
   · rw[if_pos e2] at hk
     rw[Av]
     refine at2.tx ?_
     exact Cl.mpr (hk h2 m2 fr)
   · rw[if_neg (by rw[e2];decide)] at hk
     rw[Av]
     refine at2.tx ?_
     rw[Cl]
     refine Dz (c65 x.text (by omega)) ?_
     rw[Ce]
     refine Az (fun e3=>?_) (fun e3=>?_)
     · rw[if_pos e3] at hk
       rw[Av]
       refine at2.tx ?_
       exact Cl.mpr (hk h2 m2 fr)
     · rw[if_neg (by rw[e3];decide)] at hk
       exact hk h2 m2 fr
 rw[if_neg (show¬x.kind=2 from of_decide_eq_false e)] at hk
 refine Az (fun e=>?_) (fun e=>?_)
 · rw[if_pos (show x.kind=3 from of_decide_eq_true e)] at hk
   rw[Av]
   refine at1.tx ?_
   rw[Cl]
   obtain⟨na,nb,hnv⟩:=Az9 (Vf x.text)
   refine Dz (c66 x.text (by omega)) ?_ rfl (by rw[hnv];rfl)
   rw[hnv,Ep,Ez,Ce]
   refine Ek ?_
   refine Zv (e:=55) (zs:=[(.int .u64 (Int.ofNat 0)),(.bool false)]) rfl rfl (by decide) fun h2 x2 _ _=>?_
   have at2:=at1.ext x2 n1
   have m2:=m1.ext x2
   have fr:FrO B h h2:=FrO.exh (x1.trans x2)
   refine Az (fun e2=>?_) (fun e2=>?_)
   · rw[if_pos e2] at hk
     rw[Av]
     refine at2.tx ?_
     exact Cl.mpr (hk h2 m2 fr)
   · rw[if_neg (by rw[e2];decide)] at hk
     exact hk h2 m2 fr
 rw[if_neg (show¬x.kind=3 from of_decide_eq_false e)] at hk
 refine Az (fun e=>?_) (fun e=>?_)
 · rw[if_pos (show x.kind=5 from of_decide_eq_true e)] at hk
   refine at1.tok ?_
   refine c67 x (of_decide_eq_true e) fun h2 x2=>?_
   have at2:=at1.ext x2 n1
   have m2:=m1.ext x2
   have fr:FrO B h h2:=FrO.exh (x1.trans x2)
   rw[Cl]
   have hn:=Aj3 x.text
   refine Rt (b:=decide (x.text=[])) (fun k' hk'=>?_) ?_
   · rw[Av]
     refine at2.tx ?_
     rw[Cl,Gj];exact hk'
   rw[Gj]
   have hu:Kq x.text=none∨Kq x.text=some (Pg x.text):=by
    unfold Pg
    cases Kq x.text with
    |none=>exact .inl rfl
    |some u=>exact .inr rfl
   rcases hu with hu|hu
   · rw[hu] at hk hn
     refine Bo ?_ (hk h2 m2 fr)
     revert hn
     cases decide (Pg x.text=[])<;>cases decide (x.text=[])<;>simp[Br]
   · rw[hu] at hk hn
     refine Cj ?_ (hk h2 m2 fr)
     revert hn
     cases decide (Pg x.text=[])<;>cases decide (x.text=[])<;>simp[Br]
 · rw[if_neg (show¬x.kind=5 from of_decide_eq_false e)] at hk
   exact hk h1 m1 (FrO.exh x1)
end Go.Den
noncomputable section
namespace Go.Den
open Go.RowKit
set_option maxRecDepth 100000
theorem Wl{q:UInt8}:∀(n:Nat)(s b:List UInt8),Gu q n s=some b→b.length≤s.length
 |0,_,_,h=>by simp[Gu] at h
 |n+1,[],b,h=>by simp[Gu] at h;subst h;simp
 |n+1,c::r,b,h=>by
  unfold Gu at h
  split at h
  · cases h
  · split at h
    · split at h
      · cases h
      · cases e:Gu q n (r.drop (Ey r).2) with
        |none=>rw[e] at h;cases h
        |some b'=>
         rw[e] at h;cases h
         have:=Wl n _ _ e
         rw[List.length_drop] at this
         simp only[List.length_cons];omega
    · cases e:Gu q n r with
      |none=>rw[e] at h;cases h
      |some b'=>
       rw[e] at h;cases h
       have:=Wl n _ _ e
       simp only[List.length_cons];omega
theorem Awb{s b:List UInt8}(h:Le s=some b):b.length≤s.length:=by
 unfold Le at h
 split at h
 · unfold Afj at h
   split at h
   · cases h
   · rename_i q r e
     split at h
     · cases h
     · split at h
       · have h1:=Wl _ _ _ h
         have h2:=congrArg List.length e
         rw[List.length_drop,List.length_cons] at h2
         rw[List.length_dropLast] at h1
         omega
       · cases h
 · cases h
theorem Uh(s:List UInt8):∀ps,(∀p∈ps,p.length≤2)→(Dg ps s).1.length≤2
 |[],_=>by show(0:Nat)≤2;omega
 |p::ps,h=>by
  unfold Dg
  split
  · exact h p (by simp)
  · exact Uh s ps fun q hq=>h q (by simp[hq])
theorem Aii(s:List UInt8):(Bb s).1.length≤2:=Uh s Ol (by decide)
theorem Asy(s:List UInt8):(Rr s).length≤2*s.length+2:=by
 unfold Rr
 have h1:=Ml s
 have h2:s.countP isQ≤s.length:=List.countP_le_length
 simp only[List.length_cons,List.length_append,List.length_nil];omega
theorem Wo.mono{lo:Nat}{h h':H}{b:P}{l:List UInt8}(hb:Wo lo h b l)(hn:h.next.nat≤h'.next.nat)(hf:∀c,c.nat<h.next.nat→((∃t m z w,h.at c=.row t m z 149 w)∨(∃t m z w,h.at c=.row t m z TB w))→h'.at c=h.at c):Wo lo h' b l:=by
 obtain⟨t,a1,a2,a3,a4,a5⟩:=hb
 exact⟨t,by rw[hf b a2 (.inl ⟨_,_,_,_,a1⟩)];exact a1,by omega,a3,a4.frame hn fun c hc _ t m z w ha=>hf c hc (.inr ⟨_,_,_,_,ha⟩),a5⟩
theorem Mk.avoid{Y:AV→Prop}{lo:Nat}{B p:P}{vL:AV}{O:List CT}{D:List DT}{h:H}(m:Mk Y lo B vL O D h)(hp:h.next.nat≤p.nat):Mk (fun y=>∀o n z b,y≠.slice p o n z b) lo B vL O D h:=by
 obtain⟨tb,y2,y3,W,a1,a2,a3,a4,a5,a6,a7,_⟩:=m
 refine⟨tb,y2,y3,W,a1,a2,a3,a4,a5,a6,a7,fun o n z b e=>?_⟩
 rcases a6 with⟨rfl,_⟩|⟨q,_,_,_,_,rfl,_,h2,_⟩
 · cases e
 · cases e;omega
theorem Mk.any{Y:AV→Prop}{lo:Nat}{B:P}{vL:AV}{O:List CT}{D:List DT}{h:H}(m:Mk Y lo B vL O D h):Mk (fun _=>True) lo B vL O D h:=by
 obtain⟨tb,y2,y3,W,a1,a2,a3,a4,a5,a6,a7,_⟩:=m
 exact⟨tb,y2,y3,W,a1,a2,a3,a4,a5,a6,a7,trivial⟩
theorem Mk.out{lo:Nat}{B:P}{vL:AV}{O:List CT}{D:List DT}{h:H}{Y:AV→Prop}{x:CT}(m:Mk Y lo B vL O D h)(hl:O.length+1≤1099511627776){k:H→Prop}(hk:∀h',Mk (fun _=>True) lo B vL (O++[x]) D h'→h.next.nat≤h'.next.nat→(∀c,c.nat<lo→h'.at c=h.at c)→k h'):
 ∃y2,(∀K:AV→Prop,K y2→ld1 (.ptr B (0+5)) h K)∧oK (Ao env 25 (fun e ei=>Ak 1 [(0,.agg x.cells)] h e ei)) fun v42 h43=>ld1 (.ptr B (0+5)) h43 fun v44=>eqC v44 y2<|oK (Aq env .append [25,25] [y2,v42] h43) fun v45 h46=>oK (Ck (.ptr B 0) h46) fun v47 h48=>Am 5 v47 fun v49=>st1 v49 v45 h48 k:=by
 have hlo:=m.hlo
 obtain⟨tb,y2,y3,W,a1,a2,a3,a4,a5,a6,a7,a8⟩:=m
 refine⟨y2,fun K hK=>Cz a1 (by decide) (by rw[(a4.g4 a5.len).2.1];exact hK),?_⟩
 unfold CT.cells
 rw[A13,Ae]
 generalize hR:(Ob.row (Ai [.int .i64 (.ofNat x.kind),S x.text,S x.file,.int .i64 x.f,.int .i64 x.t,.int .i64 (.ofNat x.frm),.int .i64 (.ofNat x.cnt)] 0 Z40) 7 0 40 true:Ob FT)=R
 have x2:Exh h (h.new R):=.new
 have a1':(h.new R).at B=.row tb 7 0 98 true:=by rw[x2.2 B a2];exact a1
 refine Cz a1' (by decide) ?_
 rw[(a4.g4 a5.len).2.1,Aaw a6.sl,A2c]
 refine Ao8 (ds:=CT.cells x) (a6.ext x2) rfl Bbw (Auq (by rw[List.length_map];exact hl)) (by rw[Be];omega) (by rw[←hR];rfl) rfl fun v' h3 b3 x3=>?_
 have hBn:B.nat<(h.new R).next.nat:=by rw[Be];omega
 have a1'':h3.at B=.row tb 7 0 98 true:=by rw[x3.2 B hBn (.inr fun t m z w e=>by rw[a1'] at e;cases e)];exact a1'
 have n3:=x3.1
 have n2:=x2.1
 rw[Bj,Ae,Av]
 refine Ph a1'' (Nat.zero_le _) (by decide) b3.one ?_
 refine hk _ ⟨_,v',y3,W,Bk _ _ _,by rw[Dl];omega,a3,a4.Bi3 a5.len,?_,?_,?_,trivial⟩ (by rw[Dl];omega) fun c hc=>?_
 · refine a5.mono (by rw[Dl];omega) fun q hq hm=>?_
   rw[Cd (fun e=>by subst e;rw[a1] at hm;cases hm),x3.2 q (by omega) (.inr fun t m z w e=>by rw[x2.2 q hq,hm] at e;cases e),x2.2 q hq]
 · rw[List.map_append]
   exact b3.frame (Nat.le_refl _) fun q hq h1 t m z w e=>Cd fun e'=>by subst e';rw[a1''] at e;cases e
 · refine(a7.ext x2).frame (by rw[Dl];omega) fun q hq h1 t m z w e=>?_
   rw[Cd (fun e'=>by subst e';rw[a1'] at e;cases e),x3.2 q hq (.inr fun t m z w e'=>by rw[e] at e';cases e')]
 · rw[Cd (fun e=>by subst e;omega),x3.2 c (by omega) (.inl (by omega)),x2.2 c (by omega)]
theorem Atr{Y:AV→Prop}{lo:Nat}{B:P}{vL:AV}{O:List CT}{D:List DT}{h:H}(m:Mk Y lo B vL O D h){K:AV→Prop}(hK:K vL):ld1 (.ptr B (0+4)) h K:=by
 obtain⟨tb,y2,y3,W,a1,a2,a3,a4,a5,a6,a7,a8⟩:=m
 exact Cz a1 (by decide) (by rw[(a4.g4 a5.len).1];exact hK)
def tk7(x:Db)(s:List UInt8)(a cnt:Nat):List AV:=[.int .i64 (.ofNat 6),S s,S x.file,.int .i64 x.f,.int .i64 x.t,.int .i64 (.ofNat a),.int .i64 (.ofNat cnt)]
theorem Is7.at{h:H}{q:P}{t:Tm}{l:List AV}{z:Nat}{e:TypeId}{w:Bool}(ha:h.at q=.row t 7 z e w)(ht:Is7 t l)(hl:l.length=7):AtP h q 0 l:=
 .row t 7 z e w ha (by omega) fun j hj=>by rw[Nat.zero_add,ht j (by omega),List.getD_eq_getElem?_getD,List.getElem?_eq_getElem hj];rfl
structure LI(hE:H)(B p1 p2:P)(vL:AV)(O:List CT)(D:List DT)(xa:Db)(a:Nat)(g:GS)(h:H):Prop where
 mkr:Mk (fun y=>∀o n z b,y≠.slice p1 o n z b) hE.next.nat B vL O (D++g.ds) h
 ext:Exh hE h
 tok:∃tt,h.at p1=.row tt 7 0 40 true∧Is7 tt (tk7 xa [] a g.cnt)
 l1:hE.next.nat≤p1.nat
 n1:p1.nat<h.next.nat
 bld:Wo hE.next.nat h p2 g.acc
 l2:hE.next.nat≤p2.nat
theorem LI.exh{hE:H}{B p1 p2:P}{vL:AV}{O:List CT}{D:List DT}{xa:Db}{a:Nat}{g:GS}{h h':H}(l:LI hE B p1 p2 vL O D xa a g h)(x:Exh h h'):LI hE B p1 p2 vL O D xa a g h':=by
 obtain⟨tt,t1,t2⟩:=l.tok
 exact⟨l.mkr.ext x,l.ext.trans x,⟨tt,by rw[x.2 _ l.n1];exact t1,t2⟩,l.l1,Nat.lt_of_lt_of_le l.n1 x.1,l.bld.ext x,l.l2⟩
section
variable{hE:H}{L:List Db}{vL:AV}{B p1 p2:P}{O:List CT}{D:List DT}{a:Nat}{xa:Db}{G:GS}{k:KV}
 (hO:O.length≤5000000) (hD:D.length≤5000000) (haL:a≤100000)
 (hfin:∀h',Exh hE h'→Mk (fun _=>True) hE.next.nat B vL (if G.cnt=0 then O else O++[⟨6,G.first++Rr G.acc,xa.file,xa.f,xa.t,a,G.cnt⟩]) (if G.cnt=0 then D++G.ds++[xa.dt] else D++G.ds) h'→k (.int .i64 (Int.ofNat (if G.cnt=0 then a+1 else a+G.used))) h')
include hO hD haL hfin
theorem Bf7{n:Nat}{h:H}(hcnt:G.cnt≤100000)(hacc:G.acc.length≤2000*G.cnt)(hacc2:G.acc.length≤4000000)(hfl:G.first.length≤2)(hds:G.ds.length≤100000)(li:LI hE B p1 p2 vL O D xa a G h):
 (r34 W1 k (n+1)).a4 (.ptr B 0) (Int.ofNat a) (.ptr p1 0) (.ptr p2 0) G.first.length (enc G.first) (Int.ofNat (a+G.used)) h:=by
 refine Bdv ?_
 unfold Ank
 obtain⟨tt,t1,t2⟩:=li.tok
 have at1:AtP h p1 0 (tk7 xa [] a G.cnt):=Is7.at t1 t2 rfl
 rw[Av]
 refine at1.ld1 (j:=6) (by show 6<7;decide) ?_
 show asI .i64 (.int .i64 (.ofNat G.cnt)) _
 rw[Au,Ru]
 refine Az (fun e=>?_) (fun e=>?_)
 · have e:G.cnt=0:=of_decide_eq_true e
   rw[if_pos e,if_pos e,if_pos e] at hfin
   rw[Av]
   refine at1.Atq (j:=2) (c:=3) (by show 2+3≤7;decide) ?_
   show W1 (.func 36) [.ptr B 0,.agg [S xa.dt.file,.int .i64 xa.dt.f,.int .i64 xa.dt.t]] h _
   have hm:=li.mkr
   obtain⟨_,_,_,_,_,_,hB,_⟩:=hm
   refine c36 li.mkr (by rw[List.length_append];omega) fun h' m' f'=>?_
   rw[De,Cg (by omega),As]
   refine hfin h' ⟨Nat.le_trans li.ext.1 f'.1,fun c hc=>?_⟩ m'.any
   rw[f'.2 c (Nat.lt_of_lt_of_le hc li.ext.1) (fun e=>by subst e;omega) (.inl hc),li.ext.2 c hc]
 · have e:¬G.cnt=0:=of_decide_eq_false e
   rw[if_neg e,if_neg e,if_neg e] at hfin
   refine Bli li.bld (by omega) fun h1 x1=>?_
   rw[Cl]
   refine Dz (c62 G.acc (by omega)) ?_
   rw[Cl]
   have hq:=Asy G.acc
   refine Alv (s:=G.first) (t:=Rr G.acc) (by omega) ?_
   have hm:=li.mkr
   obtain⟨_,_,_,_,_,_,hB,_⟩:=hm
   have t1':h1.at p1=.row tt 7 0 40 true:=by rw[x1.2 p1 li.n1 (.inr fun t m z w e=>by rw[t1] at e;cases e)];exact t1
   rw[Av]
   refine Ph t1' (Nat.zero_le _) (by decide) rfl ?_
   generalize hh2:h1.put p1 (.row (Ai [S (G.first++Rr G.acc)] (0+1) tt) 7 0 40 true)=h2
   have n2:h2.next=h1.next:=by subst hh2;rfl
   have f2:∀c,c≠p1→h2.at c=h1.at c:=fun c hc=>by subst hh2;exact Cd hc
   have a2:h2.at p1=.row (Ai [S (G.first++Rr G.acc)] (0+1) tt) 7 0 40 true:=by subst hh2;exact Bk _ _ _
   have i2:Is7 (Ai [S (G.first++Rr G.acc)] (0+1) tt) (tk7 xa (G.first++Rr G.acc) a G.cnt):=fun i hi=>by
    rw[Ar]
    by_cases e:i=1
    · subst e;rw[if_pos (by simp)];rfl
    · rw[if_neg (by simp;omega),t2 i hi]
      match i,hi,e with
      |0,_,_|2,_,_|3,_,_|4,_,_|5,_,_|6,_,_=>rfl
      |1,_,e=>exact absurd rfl e
   have at2:AtP h2 p1 0 (tk7 xa (G.first++Rr G.acc) a G.cnt):=Is7.at a2 i2 rfl
   have m2:Mk (fun y=>∀o n z b,y≠.slice p1 o n z b) hE.next.nat B vL O (D++G.ds) h2:=by
    refine li.mkr.mono (by rw[n2];exact x1.1) fun c hc hl hh=>?_
    have hcp:c≠p1:=fun e=>by
     subst e
     rcases hh with⟨t,m,z,w,hh⟩|⟨_,o,n,z,b,hh⟩|⟨t,m,z,w,hh⟩|hh
     · rw[t1] at hh;cases hh
     · exact hh _ _ _ _ rfl
     · rw[t1] at hh;cases hh
     · rw[t1] at hh;cases hh
    rw[f2 c hcp,x1.2 c hc (.inr fun t m z w e=>?_)]
    rcases hh with⟨_,_,_,_,hh⟩|⟨⟨_,_,_,_,hh⟩,_⟩|⟨_,_,_,_,hh⟩|hh<;>(rw[e] at hh;cases hh)
   have ext2:Exh hE h2:=by
    refine⟨by rw[n2];exact Nat.le_trans li.ext.1 x1.1,fun c hc=>?_⟩
    have hl1:=li.l1
    rw[f2 c (fun e=>by subst e;omega),x1.2 c (Nat.lt_of_lt_of_le hc li.ext.1) (.inl hc),li.ext.2 c hc]
   obtain⟨y2,hy,hout⟩:=m2.out (x:=⟨6,G.first++Rr G.acc,xa.file,xa.f,xa.t,a,G.cnt⟩) (by omega) (k:=fun h112=>k (.int .i64 (Int.ofNat (a+G.used))) h112) (fun h' m' n' f'=>hfin h' ⟨Nat.le_trans ext2.1 n',fun c hc=>by rw[f' c hc,ext2.2 c hc]⟩ m')
   rw[Bj,Ae,Av]
   refine hy _ ?_
   refine at2.ldn (by rfl) ?_
   exact hout
end
end Go.Den
namespace Go.Den
open Go.RowKit
set_option maxRecDepth 100000
theorem Td{L:List Db}{i:Nat}(h:i<L.length)(h':i<(L.map Db.cells).length):(L.map Db.cells)[i]=L[i].cells:=List.getElem_map ..
theorem Rd.tok{hE h:H}{vL:AV}{L:List Db}{i:Nat}{K:AV→Prop}(hr:Rd 8 hE vL (L.map Db.cells))(x:Exh hE h)(hi:i<L.length)(hk:K (.agg L[i].cells)):Bz 8 i vL fun a=>Go.Den.ldn 8 a h K:=by
 have hi':i<(L.map Db.cells).length:=by rw[List.length_map];exact hi
 refine(hr.ext x).all hi' (by rw[Td hi];rfl) ?_
 rw[Td hi];exact hk
section
variable{hE:H}{L:List Db}{vL:AV}{B p1 p2:P}{O:List CT}{D:List DT}{a:Nat}{xa:Db}{G:GS}{k:KV}
 (hr:Rd 8 hE vL (L.map Db.cells)) (hLen:L.length≤2000) (htx:∀x∈L,x.text.length≤2000)
 (hO:O.length≤5000000) (hD:D.length≤5000000)
 (hfin:∀h',Exh hE h'→Mk (fun _=>True) hE.next.nat B vL (if G.cnt=0 then O else O++[⟨6,G.first++Rr G.acc,xa.file,xa.f,xa.t,a,G.cnt⟩]) (if G.cnt=0 then D++G.ds++[xa.dt] else D++G.ds) h'→k (.int .i64 (Int.ofNat (if G.cnt=0 then a+1 else a+G.used))) h')
include hr hLen htx hO hD hfin
theorem Bf8(n:Nat):∀(i:Nat)(g:GS){h:H},3*(L.length-i)+2≤n→a≤i→i≤L.length→g.used+a≤i→g.cnt≤i-a→g.acc.length≤2000*g.cnt→g.first.length≤2→g.ds.length≤i-a→Ed (L.drop i) (i-a) g=G→LI hE B p1 p2 vL O D xa a g h→
 (r34 W1 k n).a1 (.ptr B 0) (Int.ofNat a) (.ptr p1 0) (.ptr p2 0) g.first.length (enc g.first) g.told (Int.ofNat (a+g.used)) (Int.ofNat i) h:=by
 induction n using Nat.strongRecOn with
 |_ n ih=>
  intro i g h hn hai hi hu hc hacc hfl hds hG li
  obtain⟨n,rfl⟩:∃m,n=m+2:=⟨n-2,by omega⟩
  have fin:Ed (L.drop i) (i-a) g=g→∀h',Exh h h'→(r34 W1 k (n+1)).a4 (.ptr B 0) (Int.ofNat a) (.ptr p1 0) (.ptr p2 0) g.first.length (enc g.first) (Int.ofNat (a+g.used)) h':=fun hg h' x=>by
   rw[hg] at hG
   subst hG
   exact Bf7 hO hD (by omega) hfin (by omega) hacc (by omega) hfl (by omega) (li.exh x)
  refine Bdy ?_
  unfold Ann
  rw[Bj,Ae,Av]
  refine Atr li.mkr ?_
  rw[hr.len,List.length_map,ilt]
  refine Az (fun e=>?_) (fun e=>?_)
  · have e:i<L.length:=of_decide_eq_true e
    have hx:=htx _ (List.getElem_mem e)
    have hdrop:L.drop i=L[i]::L.drop (i+1):=List.drop_eq_getElem_cons e
    rw[hdrop] at hG fin
    unfold Ed at hG fin
    rw[Bj,Ae,Av]
    refine Atr li.mkr ?_
    rw[Ap]
    refine hr.tok li.ext e (Ek ?_)
    refine Zv (e:=43) (zs:=[(.int .i64 (Int.ofNat 0)),(.str 0 0),(.bool false),(.str 0 0),(.int .i64 (Int.ofNat 0)),(.int .i64 (Int.ofNat 0)),(.bool false),.Ad]) rfl rfl (by decide) fun h1 x1 n1 at1=>?_
    rw[Av]
    refine at1.kd ?_
    rw[Au,Aai]
    have next:∀(m:Nat)(g':GS)(h':H),m≤n→3*(L.length-(i+1))+2≤m→g'.used+a≤i+1→g'.cnt≤i+1-a→g'.acc.length≤2000*g'.cnt→g'.first.length≤2→g'.ds.length≤i+1-a→Ed (L.drop (i+1)) (i-a+1) g'=G→LI hE B p1 p2 vL O D xa a g' h'→
     (r34 W1 k (m+1)).a3 (.ptr B 0) (Int.ofNat a) (.ptr p1 0) (.ptr p2 0) g'.first.length (enc g'.first) g'.told (Int.ofNat (a+g'.used)) (Int.ofNat i) h':=fun m g' h' hmn hm b1 b2 b3 b4 b5 b6 b7=>by
     refine Bdw ?_
     unfold Anl
     rw[De,Cg (by omega),As]
     exact ih m (by omega) (i+1) g' hm (by omega) e b1 b2 b3 b4 b5 (by rw[show i+1-a=i-a+1 by omega];exact b6) b7
    refine Az (fun e7=>?_) (fun e7=>?_)
    · have e7:L[i].kind=7:=of_decide_eq_true e7
      rw[if_pos e7] at hG
      exact next n g h1 (Nat.le_refl _) (by omega) (by omega) (by omega) hacc hfl (by omega) hG (li.exh x1)
    · have e7:¬L[i].kind=7:=of_decide_eq_false e7
      rw[if_neg e7] at hG fin
      rw[Av]
      refine at1.tx ?_
      rw[Cl]
      refine Dz (c59 L[i].text (by omega)) ?_ rfl (by cases Le L[i].text<;>rfl)
      have hbyt:∃w,Aqp (Le L[i].text)=.tuple [S w,.bool (Le L[i].text).isSome]∧∀b,Le L[i].text=some b→w=b:=by
       cases Le L[i].text with
       |none=>exact⟨[],rfl,fun b h=>by cases h⟩
       |some b=>exact⟨b,rfl,fun b' h=>by cases h;rfl⟩
      obtain⟨w,hw1,hw2⟩:=hbyt
      rw[hw1,Ep,Cl,Ez,Ce,Av]
      refine at1.kd ?_
      rw[Au,Aai]
      refine Rt (b:=Da (Le L[i].text).isSome) (fun k' hk'=>hk') ?_
      refine Az (fun e4=>?_) (fun e4=>?_)
      · refine fin ?_ h1 x1
        rw[Br,Br,Bool.or_eq_true,Bool.not_eq_true',Bool.not_eq_true'] at e4
        rcases e4 with e4|e4
        · rw[if_neg (show¬L[i].kind=4 from of_decide_eq_false e4)]
        · have hn:Le L[i].text=none:=by cases hb:Le L[i].text with
           |none=>rfl
           |some b=>rw[hb] at e4;cases e4
          rw[hn]
          split<;>rfl
      · rw[Br,Br,Bool.or_eq_false_iff,Bool.not_eq_false',Bool.not_eq_false'] at e4
        have ek:L[i].kind=4:=of_decide_eq_true e4.1
        obtain⟨b,hb⟩:=Option.isSome_iff_exists.1 e4.2
        have hwb:w=b:=hw2 b hb
        subst hwb
        rw[if_pos ek,hb] at hG
        simp only[] at hG
        have hbl:=Awb hb
        have hll:=Aii L[i].text
        rw[Av]
        refine at1.tx ?_
        rw[Cl]
        refine Dz (c60 L[i].text) ?_
        rw[Ep,Cl,Ez,Ce]
        have li1:=li.exh x1
        have toA2:∀(F:List UInt8)(T:Bool)(E:List DT)(h2:H)(m:Nat),g.add L[i] w (i-a+1)=⟨F,T,g.acc++w,g.cnt+1,i-a+1,E⟩→E.length≤g.ds.length+1→F.length≤2→m≤n→3*(L.length-(i+1))+2≤m→LI hE B p1 p2 vL O D xa a { g with ds:=E } h2→
         (r34 W1 k (m+2)).a2 (.ptr B 0) (Int.ofNat a) (.ptr p1 0) (.ptr p2 0) F.length (enc F) T (Int.ofNat i) w.length (enc w) h2:=fun F T E h2 m hadd hE' hF hmn hm li2=>by
         refine Bdx ?_
         unfold Anm
         refine Blj li2.bld (Nat.le_trans li2.l1 (Nat.le_of_lt li2.n1)) (by show g.acc.length+w.length≤1099511627776;omega) fun v h3 b3 f3=>?_
         obtain⟨tt,t1,t2⟩:=li2.tok
         obtain⟨tb,u1,u2,u3,u4,u5⟩:=li2.bld
         have hp12:p1≠p2:=fun e=>by rw[e,u1] at t1;cases t1
         have t1':h3.at p1=.row tt 7 0 40 true:=by rw[f3.2 p1 li2.n1 hp12 (.inr fun t m z w e=>by rw[t1] at e;cases e)];exact t1
         rw[Av]
         refine Cz t1' (by decide) ?_
         rw[show Bh tt (0+6)=.int .i64 (.ofNat g.cnt) from t2 6 (by decide),Au,De,Cg (by omega),As,De,Cg (by omega),As,Av]
         refine Ph t1' (Nat.zero_le _) (by decide) rfl ?_
         rw[show Int.ofNat (i+1)=Int.ofNat (a+(i-a+1)) by congr 1;omega]
         have hnext:=next m ⟨F,T,g.acc++w,g.cnt+1,i-a+1,E⟩ (h3.put p1 (.row (Ai [.int .i64 (Int.ofNat (g.cnt+1))] (0+6) tt) 7 0 40 true)) hmn hm (by show i-a+1+a≤i+1;omega) (by show g.cnt+1≤i+1-a;omega) (by show(g.acc++w).length≤2000*(g.cnt+1);rw[List.length_append];omega) hF (by show E.length≤i+1-a;omega) (by rw[←hadd];exact hG)
         refine hnext ⟨?_,?_,⟨_,Bk _ _ _,fun j hj=>?_⟩,li2.l1,by rw[Dl];exact Nat.lt_of_lt_of_le li2.n1 f3.1,?_,li2.l2⟩
         · refine li2.mkr.mono (by rw[Dl];exact f3.1) fun c hc hl hh=>?_
           have hcp:c≠p1:=fun e=>by
            subst e
            rcases hh with⟨t,m,z,w,hh⟩|⟨_,o,n,z,b,hh⟩|⟨t,m,z,w,hh⟩|hh
            · rw[t1] at hh;cases hh
            · exact hh _ _ _ _ rfl
            · rw[t1] at hh;cases hh
            · rw[t1] at hh;cases hh
           have hcp2:c≠p2:=fun e=>by
            subst e
            rcases hh with⟨_,_,_,_,hh⟩|⟨⟨_,_,_,_,hh⟩,_⟩|⟨_,_,_,_,hh⟩|hh<;>(rw[u1] at hh;cases hh)
           rw[Cd hcp,f3.2 c hc hcp2 (.inr fun t m z w e=>?_)]
           rcases hh with⟨_,_,_,_,hh⟩|⟨⟨_,_,_,_,hh⟩,_⟩|⟨_,_,_,_,hh⟩|hh<;>(rw[e] at hh;cases hh)
         · refine⟨by rw[Dl];exact Nat.le_trans li2.ext.1 f3.1,fun c hc=>?_⟩
           have hl1:=li2.l1
           have hl2:=li2.l2
           rw[Cd (fun e=>by subst e;omega),f3.2 c (Nat.lt_of_lt_of_le hc li2.ext.1) (fun e=>by subst e;omega) (.inl hc),li2.ext.2 c hc]
         · rw[Ar]
           by_cases e:j=6
           · subst e;rw[if_pos (by simp)];rfl
           · rw[if_neg (by simp;omega),t2 j hj]
             match j,hj,e with
             |0,_,_|1,_,_|2,_,_|3,_,_|4,_,_|5,_,_=>rfl
             |6,_,e=>exact absurd rfl e
         · refine b3.mono (by rw[Dl];exact Nat.le_refl _) fun c hc hh=>Cd fun e=>?_
           subst e
           rcases hh with⟨_,_,_,_,hh⟩|⟨_,_,_,_,hh⟩<;>(rw[t1'] at hh;cases hh)
        obtain⟨m,rfl⟩:∃m,n=m+1:=⟨n-1,by omega⟩
        refine Rt (b:=decide ((Bb L[i].text).1=g.first)) (fun k' hk'=>by rw[Df];exact hk') ?_
        rw[Gj]
        refine Az (fun e1=>?_) (fun e1=>?_)
        · rw[Bool.or_eq_true,decide_eq_true_eq,decide_eq_true_eq] at e1
          exact toA2 g.first g.told g.ds h1 m (by unfold GS.add;rw[if_pos e1]) (by omega) hfl (by omega) (by omega) li1
        · rw[Bool.or_eq_false_iff,decide_eq_false_iff_not,decide_eq_false_iff_not] at e1
          have e1':¬((Bb L[i].text).1=[]∨(Bb L[i].text).1=g.first):=fun h=>h.elim e1.1 e1.2
          rw[Gj]
          refine Az (fun e2=>?_) (fun e2=>?_)
          · have e2:g.first=[]:=of_decide_eq_true e2
            exact toA2 (Bb L[i].text).1 g.told g.ds h1 m (by unfold GS.add;rw[if_neg e1',if_pos e2]) (by omega) hll (by omega) (by omega) li1
          · have e2:¬g.first=[]:=of_decide_eq_false e2
            rw[Br]
            refine Az (fun e3=>?_) (fun e3=>?_)
            · have e3:g.told=false:=by simpa using e3
              rw[Av]
              refine at1.sp ?_
              refine c36 (x:=L[i].dt) li1.mkr (by rw[List.length_append];omega) fun h2 m2 f2=>?_
              have hm1:=li1.mkr
              obtain⟨_,_,_,_,hBa,hBn,hB,_⟩:=hm1
              refine toA2 g.first true (g.ds++[L[i].dt]) h2 m (by unfold GS.add;rw[if_neg e1',if_neg e2,if_neg (by rw[e3];decide)]) (by simp) hfl (by omega) (by omega) ⟨by rw[←List.append_assoc];exact m2,?_,?_,li1.l1,Nat.lt_of_lt_of_le li1.n1 f2.1,?_,li1.l2⟩
              · refine⟨Nat.le_trans li1.ext.1 f2.1,fun c hc=>?_⟩
                rw[f2.2 c (Nat.lt_of_lt_of_le hc li1.ext.1) (fun e=>by subst e;omega) (.inl hc),li1.ext.2 c hc]
              · obtain⟨tt,t1,t2⟩:=li1.tok
                exact⟨tt,by rw[f2.2 p1 li1.n1 (fun e=>by rw[e,hBa] at t1;cases t1) (.inr fun t m z w e=>by rw[t1] at e;cases e)];exact t1,t2⟩
              · refine li1.bld.mono f2.1 fun c hc hh=>f2.2 c hc (fun e=>?_) (.inr fun t m z w e=>?_)
                · subst e
                  rcases hh with⟨_,_,_,_,hh⟩|⟨_,_,_,_,hh⟩<;>(rw[hBa] at hh;cases hh)
                · rcases hh with⟨_,_,_,_,hh⟩|⟨_,_,_,_,hh⟩<;>(rw[e] at hh;cases hh)
            · have e3:g.told=true:=by simpa using e3
              exact toA2 g.first g.told g.ds h1 m (by unfold GS.add;rw[if_neg e1',if_neg e2,if_pos e3]) (by omega) hfl (by omega) (by omega) li1
  · have e:i=L.length:=by have:=of_decide_eq_false e;omega
    refine fin ?_ h .refl
    rw[e,List.drop_length];rfl
end
end Go.Den
namespace Go.Den
open Go.RowKit
set_option maxRecDepth 100000
theorem Ay5{h:H}{e:TypeId}{zs cs:List AV}{c:Nat}{K:H→Prop}(hz:zs.length=c)(hc:cs.length=c)(h1:1≤c)(hk:∀h',Exh h h'→h.next.nat<h'.next.nat→h'.at h.next=.row (Ai cs 0 (Ai zs 0 .e)) c 0 e true→K h'):stn c (.ptr h.next 0) (.agg cs) (h.new (rowOf e zs)) K:=by
 have ha:(h.new (rowOf e zs)).at h.next=.row (Ai zs 0 .e) c 0 e true:=by
  rw[Ay];unfold rowOf;rw[Di,hz]
 refine Tp ha (Nat.le_refl _) hc h1 (by omega) (hk _ ⟨by rw[Dl,Be];omega,fun d hd=>?_⟩ (by rw[Dl,Be];omega) (Bk _ _ _))
 rw[Cd (fun e'=>by subst e';omega),Dd hd]
def RdT(h:H)(v:AV)(L:List Db):Prop:=(v=.Ad∧L=[])∨Rd 8 h v (L.map Db.cells)
theorem RdT.len{h:H}{v:AV}{L:List Db}(hr:RdT h v L){K:Nat→Prop}:Ef v K=K L.length:=by
 rcases hr with⟨rfl,rfl⟩|hr
 · rfl
 · rw[hr.len,List.length_map]
theorem RdT.sl{h:H}{v:AV}{L:List Db}(hr:RdT h v L):Sl v:=by
 rcases hr with⟨rfl,_⟩|⟨q,o,c,m,b,rfl,_⟩
 · exact .inl rfl
 · exact .inr ⟨_,_,_,_,_,rfl⟩
theorem RdT.rd{h:H}{v:AV}{L:List Db}(hr:RdT h v L){i:Nat}(hi:i<L.length):Rd 8 h v (L.map Db.cells):=by
 rcases hr with⟨_,rfl⟩|hr
 · exact absurd hi (Nat.not_lt_zero _)
 · exact hr
theorem Ap1{x:Db}{p:Nat×List UInt8}(h:Hx x=some p):p.1≠0:=by
 unfold Hx at h
 split at h
 · split at h<;>(cases h;simp)
 · split at h
   · split at h
     · cases h;simp
     · split at h
       · cases h;simp
       · cases h
   · split at h
     · split at h
       · cases h;simp
       · cases h
     · split at h
       · cases e:Kq x.text with
         |none=>rw[e] at h;cases h
         |some u=>rw[e] at h;cases h;simp
       · cases h
theorem c34{hE:H}{L:List Db}{vL:AV}{B:P}{O:List CT}{D:List DT}{a:Nat}{k:KV}{h:H}
 (hr:Rd 8 hE vL (L.map Db.cells)) (hLen:L.length≤2000) (htx:∀x∈L,x.text.length≤2000) (hO:O.length≤5000000) (hD:D.length≤5000000) (ha:a<L.length) (m:Mk (fun _=>True) hE.next.nat B vL O D h) (x:Exh hE h)
 (hfin:∀h',Exh hE h'→Mk (fun _=>True) hE.next.nat B vL (if(Ed (L.drop a) 0 g0).cnt=0 then O else O++[⟨6,(Ed (L.drop a) 0 g0).first++Rr (Ed (L.drop a) 0 g0).acc,L[a].file,L[a].f,L[a].t,a,(Ed (L.drop a) 0 g0).cnt⟩]) (if(Ed (L.drop a) 0 g0).cnt=0 then D++(Ed (L.drop a) 0 g0).ds++[L[a].dt] else D++(Ed (L.drop a) 0 g0).ds) h'→k (.int .i64 (Int.ofNat (if(Ed (L.drop a) 0 g0).cnt=0 then a+1 else a+(Ed (L.drop a) 0 g0).used))) h'):
 W1 (.func 34) [.ptr B 0,.int .i64 (Int.ofNat a)] h k:=by
 refine w34 (n:=3*L.length+3+1) Bl (g34 ?_)
 unfold Ano
 rw[Bj,Ae,Av]
 refine Atr m ?_
 have hi':a<(L.map Db.cells).length:=by rw[List.length_map];exact ha
 rw[Ap]
 refine(hr.ext x).elem hi' fun q o hq _ hat=>?_
 rw[Td ha] at hat
 rw[Av]
 refine hat.Atq (j:=3) (c:=3) (by show 3+3≤8;decide) ?_
 show oK (Bp env (env.ty 40) [(0,(.int .i64 (Int.ofNat 6))),(2,.agg [S L[a].file,.int .i64 L[a].f,.int .i64 L[a].t]),(3,(.int .i64 (Int.ofNat a)))] h) _
 rw[A5z,Ae]
 refine Ek ?_
 refine Ay5 (e:=40) (zs:=[(.int .i64 (Int.ofNat 0)),(.str 0 0),(.str 0 0),(.int .i64 (Int.ofNat 0)),(.int .i64 (Int.ofNat 0)),(.int .i64 (Int.ofNat 0)),(.int .i64 (Int.ofNat 0))]) rfl rfl (by decide) fun h1 x1 n1 a1=>?_
 have hlo:=m.hlo
 have hmv:=(m.avoid (p:=h.next) (Nat.le_refl _)).ext x1
 refine Ek ?_
 have x2:Exh h1 (h1.new Wr):=.new
 have:=Bf8 (p1:=h.next) (p2:=h1.next) (xa:=L[a]) hr hLen htx hO hD hfin (3*L.length+3) a g0 (h:=h1.new Wr) (by omega) (Nat.le_refl _) (by omega) (by show 0+a≤a;omega) (by show 0≤_;omega) (by show 0≤_;omega) (by show 0≤2;omega) (by show 0≤_;omega) (by rw[Nat.sub_self]) ⟨?_,(x.trans x1).trans x2,⟨_,by rw[x2.2 _ n1];exact a1,Ko _ rfl _⟩,hlo,Nat.lt_of_lt_of_le n1 x2.1,Wo.new _ _,by have:=x1.1;omega⟩
 · exact this
 · show Mk _ _ _ _ _ (D++[]) _
   rw[List.append_nil];exact hmv.ext x2
theorem Af0:∀(l:List Db)(k:Nat)(g:GS),(Ed l k g).cnt=0→g.cnt=0∧(Ed l k g).ds=g.ds
 |[],_,g,h=>⟨h,rfl⟩
 |x::l,k,g,h=>by
  unfold Ed at h ⊢
  split at h
  · rename_i e
    rw[if_pos e]
    exact Af0 l _ _ h
  · rename_i e
    rw[if_neg e]
    split at h
    · rename_i e4
      rw[if_pos e4]
      split at h
      · rename_i hb
        exact⟨h,rfl⟩
      · rename_i b hb
        have:=(Af0 l _ _ h).1
        rw[(g.Agv x b (k+1)).1] at this
        omega
    · rename_i e4
      rw[if_neg e4]
      exact⟨h,rfl⟩
section
variable{hE:H}{L:List Db}{vL:AV}{B:P}{k:KV}(hr:RdT hE vL L)(hLen:L.length≤2000)(htx:∀x∈L,x.text.length≤2000)(he:Ly hE)
include hr hLen htx he
theorem Bgc(n:Nat):∀(i:Nat)(O:List CT)(D:List DT){h:H},2*(L.length-i)+1≤n→i≤L.length→O.length≤i→D.length≤2002*i→Exh hE h→Mk (fun _=>True) hE.next.nat B vL O D h→
 (∀h' vo vd,Exh hE h'→Cv 40 7 hE.next.nat h' vo ((O++(Dk (L.drop i) i 0).1).map CT.cells)→Cv 48 4 hE.next.nat h' vd ((D++(Dk (L.drop i) i 0).2).map DT.cells)→k (.tuple [vo,vd]) h')→
 (r16 W1 k n).a1 vL (.ptr B 0) (Int.ofNat i) h:=by
 induction n using Nat.strongRecOn with
 |_ n ih=>
  intro i O D h hn hi hOl hDl x m hk
  obtain⟨n,rfl⟩:∃m,n=m+1:=⟨n-1,by omega⟩
  have hB:hE.next.nat≤B.nat:=by obtain⟨_,_,_,_,_,_,hB,_⟩:=m;exact hB
  have hE13:=he.2.2
  have hasE:∀h',Exh hE h'→Ly h':=fun h' x'=>he.keep x'.1 x'.2
  refine Bd1 ?_
  unfold Ans
  rw[hr.len,ilt]
  refine Az (fun e=>?_) (fun e=>?_)
  · have e:i<L.length:=of_decide_eq_true e
    have hdrop:L.drop i=L[i]::L.drop (i+1):=List.drop_eq_getElem_cons e
    have hx:=htx _ (List.getElem_mem e)
    rw[Ap]
    refine(hr.rd e).tok x e (Ek ?_)
    refine Zv (e:=43) (zs:=[(.int .i64 (Int.ofNat 0)),(.str 0 0),(.bool false),(.str 0 0),(.int .i64 (Int.ofNat 0)),(.int .i64 (Int.ofNat 0)),(.bool false),.Ad]) rfl rfl (by decide) fun h1 x1 n1 at1=>?_
    have m1:=m.ext x1
    have xE1:=x.trans x1
    rw[Av]
    refine at1.kd ?_
    rw[Au,Aai]
    have hconv:Dk (L.drop i) i 0=(if L[i].kind=4 then
     (if(Ed (L[i]::L.drop (i+1)) 0 g0).cnt=0 then((Dk (L.drop (i+1)) (i+1) 0).1,L[i].dt::(Dk (L.drop (i+1)) (i+1) 0).2)
     else(⟨6,(Ed (L[i]::L.drop (i+1)) 0 g0).first++Rr (Ed (L[i]::L.drop (i+1)) 0 g0).acc,L[i].file,L[i].f,L[i].t,i,(Ed (L[i]::L.drop (i+1)) 0 g0).cnt⟩::(Dk (L.drop (i+1)) (i+1) ((Ed (L[i]::L.drop (i+1)) 0 g0).used-1)).1,(Ed (L[i]::L.drop (i+1)) 0 g0).ds++(Dk (L.drop (i+1)) (i+1) ((Ed (L[i]::L.drop (i+1)) 0 g0).used-1)).2))
     else if L[i].kind=7 then Dk (L.drop (i+1)) (i+1) 0
     else match Hx L[i] with
      |none=>((Dk (L.drop (i+1)) (i+1) 0).1,L[i].dt::(Dk (L.drop (i+1)) (i+1) 0).2)
      |some p=>(⟨p.1,p.2,L[i].file,L[i].f,L[i].t,i,1⟩::(Dk (L.drop (i+1)) (i+1) 0).1,(Dk (L.drop (i+1)) (i+1) 0).2)):=by
     rw[hdrop,Dk]<;>rfl
    rw[hconv] at hk
    have go2:∀(O':List CT)(D':List DT)(h':H),O'.length≤i+1→D'.length≤2002*(i+1)→Exh hE h'→Mk (fun _=>True) hE.next.nat B vL O' D' h'→
     (∀h'' vo vd,Exh hE h''→Cv 40 7 hE.next.nat h'' vo ((O'++(Dk (L.drop (i+1)) (i+1) 0).1).map CT.cells)→Cv 48 4 hE.next.nat h'' vd ((D'++(Dk (L.drop (i+1)) (i+1) 0).2).map DT.cells)→k (.tuple [vo,vd]) h'')→(r16 W1 k n).a2 vL (.ptr B 0) (Int.ofNat i) h':=fun O' D' h' b1 b2 b3 b4 b5=>by
     obtain⟨m,rfl⟩:∃m,n=m+1:=⟨n-1,by omega⟩
     refine Bd0 ?_
     unfold Anr
     rw[De,Cg (by omega),As]
     exact ih m (by omega) (i+1) O' D' (by omega) e b1 b2 b3 b4 b5
    refine Az (fun e4=>?_) (fun e4=>?_)
    · have e4:L[i].kind=4:=of_decide_eq_true e4
      rw[if_pos e4,←hdrop] at hk
      refine c34 (hr.rd e) hLen htx (by omega) (by omega) e m1 xE1 fun h2 x2 m2=>?_
      rw[Au]
      have gb:=Qb (L.drop i) 0 g0 (Nat.le_refl _) (Nat.le_refl _) (Nat.le_refl _) (fun h=>absurd rfl h)
      rw[List.length_drop,Nat.zero_add] at gb
      have hds0:=Af0 (L.drop i) 0 g0
      by_cases ec:(Ed (L.drop i) 0 g0).cnt=0
      · have d0:(Ed (L.drop i) 0 g0).ds=[]:=(hds0 ec).2
        rw[if_pos ec] at hk
        rw[if_pos ec,if_pos ec,d0,List.append_nil] at m2
        rw[if_pos ec]
        refine ih n (by omega) (i+1) O (D++[L[i].dt]) (by omega) e (by omega) (by rw[List.length_append,List.length_singleton];omega) x2 m2 fun h' vo vd y1 y2 y3=>hk h' vo vd y1 y2 ?_
        rw[List.append_assoc] at y3;exact y3
      · rw[if_neg ec] at hk
        rw[if_neg ec,if_neg ec] at m2
        rw[if_neg ec]
        have hu:=gb.2.2.2 ec
        have hsk:Dk (L.drop (i+1)) (i+1) ((Ed (L.drop i) 0 g0).used-1)=Dk (L.drop (i+(Ed (L.drop i) 0 g0).used)) (i+(Ed (L.drop i) 0 g0).used) 0:=by
         rw[Aax _ _ _ (by rw[List.length_drop];omega),List.drop_drop]
         congr 1
         · congr 1;omega
         · omega
        rw[hsk] at hk
        refine ih n (by omega) (i+(Ed (L.drop i) 0 g0).used) _ (D++(Ed (L.drop i) 0 g0).ds) (by omega) (by omega) ?_ (by rw[List.length_append];omega) x2 m2 fun h' vo vd y1 y2 y3=>hk h' vo vd y1 ?_ ?_
        · rw[List.length_append,List.length_singleton];omega
        · rw[List.append_assoc] at y2;exact y2
        · rw[List.append_assoc] at y3;exact y3
    · have e4:¬L[i].kind=4:=of_decide_eq_false e4
      rw[if_neg e4] at hk
      refine at1.tok ?_
      refine c35 L[i] (by omega) (hasE _ xE1) m1 hr.sl hE13 fun h2 m2 f2=>?_
      have xE2:Exh hE h2:=⟨Nat.le_trans xE1.1 f2.1,fun c hc=>by rw[f2.2 c (Nat.lt_of_lt_of_le hc xE1.1) (fun e=>by subst e;omega),xE1.2 c hc]⟩
      have hnB:h.next≠B:=fun e=>by obtain⟨_,_,_,_,_,hb,_⟩:=m;rw[←e] at hb;omega
      have at2:AtP h2 h.next 0 L[i].cells:=at1.frame (f2.2 _ n1 hnB)
      have hkn:∀K:AV→AV→Prop,K (.int .i64 (.ofNat ((Hx L[i]).getD (0,[])).1)) (S ((Hx L[i]).getD (0,[])).2)→ext 0 (Aio (Hx L[i])) fun v22=>ext 1 (Aio (Hx L[i])) fun v24=>K v22 v24:=fun K hK=>by
       cases hkp:Hx L[i] with
       |none=>rw[hkp] at hK;exact hK
       |some p=>rw[hkp] at hK;exact hK
      have hkn0:∀K:AV→Prop,K (.int .i64 (.ofNat ((Hx L[i]).getD (0,[])).1))→ext 0 (Aio (Hx L[i])) K:=fun K hK=>by
       cases hkp:Hx L[i] with
       |none=>rw[hkp] at hK;exact hK
       |some p=>rw[hkp] at hK;exact hK
      have hkn1:∀K:AV→Prop,K (S ((Hx L[i]).getD (0,[])).2)→ext 1 (Aio (Hx L[i])) K:=fun K hK=>by
       cases hkp:Hx L[i] with
       |none=>rw[hkp] at hK;exact hK
       |some p=>rw[hkp] at hK;exact hK
      refine hkn0 _ ?_
      rw[Au]
      refine hkn1 _ ?_
      rw[Cl,Av]
      refine at2.kd ?_
      rw[Au,Aai]
      refine Az (fun e7=>?_) (fun e7=>?_)
      · have e7:L[i].kind=7:=of_decide_eq_true e7
        rw[if_pos e7] at hk
        exact go2 O D h2 (by omega) (by omega) xE2 m2 hk
      · have e7:¬L[i].kind=7:=of_decide_eq_false e7
        rw[if_neg e7] at hk
        rw[Ru]
        cases hkp:Hx L[i] with
        |none=>
         rw[hkp] at hk
         refine Cj rfl ?_
         rw[Av]
         refine at2.sp ?_
         refine c36 (x:=L[i].dt) m2 (by omega) fun h3 m3 f3=>?_
         refine go2 O (D++[L[i].dt]) h3 (by omega) (by rw[List.length_append,List.length_singleton];omega) ⟨Nat.le_trans xE2.1 f3.1,fun c hc=>by rw[f3.2 c (Nat.lt_of_lt_of_le hc xE2.1) (fun e=>by subst e;omega) (.inl hc),xE2.2 c hc]⟩ m3 fun h' vo vd y1 y2 y3=>hk h' vo vd y1 y2 ?_
         rw[List.append_assoc] at y3;exact y3
        |some p=>
         rw[hkp] at hk
         have hp0:=Ap1 hkp
         refine Bo (decide_eq_false hp0) ?_
         obtain⟨y2,hy,hout⟩:=m2.out (x:=⟨p.1,p.2,L[i].file,L[i].f,L[i].t,i,1⟩) (by omega) (k:=fun h50=>(r16 W1 k n).a2 vL (.ptr B 0) (Int.ofNat i) h50) (fun h' m' n' f'=>by
          refine go2 _ D h' (by rw[List.length_append,List.length_singleton];omega) (by omega) ⟨Nat.le_trans xE2.1 n',fun c hc=>by rw[f' c hc,xE2.2 c hc]⟩ m' fun h' vo vd y1 y2 y3=>hk h' vo vd y1 ?_ y3
          rw[List.append_assoc] at y2;exact y2)
         rw[Bj,Ae,Av]
         refine hy _ ?_
         rw[Av]
         refine at2.sp ?_
         show oK (Bp env (env.ty 40) [(0,(.int .i64 (.ofNat p.1))),(1,(.str p.2.length (enc p.2))),(2,.agg [.str L[i].file.length (enc L[i].file),.int .i64 L[i].f,.int .i64 L[i].t]),(3,(.int .i64 (Int.ofNat i))),(4,(.int .i64 (Int.ofNat 1)))] h2) _
         rw[Beb,Ae]
         exact hout
  · have e:i=L.length:=by have:=of_decide_eq_false e;omega
    rw[e,List.drop_length] at hk
    have hlo:=m.hlo
    obtain⟨tb,y2,y3,W,a1,a2,a3,a4,a5,a6,a7,a8⟩:=m
    rw[Bj,Ae,Av]
    refine Cz a1 (by decide) ?_
    rw[(a4.g4 a5.len).2.1,hr.len,A50,Ae,Bj,Ae,Av]
    refine Cz a1 (by decide) ?_
    rw[(a4.g4 a5.len).2.2,A13,Ae]
    generalize hR:(Ob.row (Ai [.int .i64 (.ofNat 8),.str 0 0,.str 0 0,.int .i64 (.ofNat 0),.int .i64 (.ofNat 0),.int .i64 (Int.ofNat L.length),.int .i64 (.ofNat 0)] 0 Z40) 7 0 40 true:Ob FT)=R
    have x2:Exh h (h.new R):=.new
    have a1':(h.new R).at B=.row tb 7 0 98 true:=by rw[x2.2 B a2];exact a1
    refine Cz a1' (by decide) ?_
    rw[(a4.g4 a5.len).2.1,Aaw a6.sl]
    refine Cz a1' (by decide) ?_
    rw[(a4.g4 a5.len).2.2,Aaw a7.sl,A2c]
    refine Ao8 (ds:=CT.cells ⟨8,[],[],0,0,L.length,0⟩) (a6.ext x2) rfl Bbw (Auq (by rw[List.length_map];omega)) (by rw[Be];omega) (by rw[←hR];rfl) rfl fun v' h3 b3 x3=>?_
    have hBn:B.nat<(h.new R).next.nat:=by rw[Be];omega
    have a1'':h3.at B=.row tb 7 0 98 true:=by rw[x3.2 B hBn (.inr fun t m z w e=>by rw[a1'] at e;cases e)];exact a1'
    refine Cz a1'' (by decide) ?_
    rw[(a4.g4 a5.len).2.2,Aaw a7.sl]
    have n3:=x3.1
    have n2:=x2.1
    refine hk h3 v' y3 ⟨by have:=x.1;omega,fun c hc=>?_⟩ ?_ ?_
    · have:=x.1
      rw[x3.2 c (by omega) (.inl hc),x2.2 c (by omega),x.2 c hc]
    · rw[List.map_append];exact b3
    · show Cv 48 4 _ _ _ ((D++[]).map DT.cells)
      rw[List.append_nil]
      exact(a7.ext x2).kps x3 (by decide)
theorem c16(hk:∀h' vo vd,Exh hE h'→Cv 40 7 hE.next.nat h' vo ((Dk L 0 0).1.map CT.cells)→Cv 48 4 hE.next.nat h' vd ((Dk L 0 0).2.map DT.cells)→k (.tuple [vo,vd]) h'):W1 (.func 16) [vL] hE k:=by
 refine w16 (n:=2*L.length+2+1) Bl (g16 ?_)
 unfold Ant
 rw[Bd7 vL hr.sl,Ae,Xh]
 refine Aaz (by unfold Lv;simp) (Ek ?_)
 have ha:(hE.new (rowOf 98 (Lv++[vL,.Ad,.Ad]))).at hE.next=.row (Ai (Lv++[vL,.Ad,.Ad]) 0 .e) 7 0 98 true:=by
  rw[Ay];unfold rowOf;rw[Di];rfl
 refine Bgc hr hLen htx he (2*L.length+2) 0 [] [] (by omega) (Nat.zero_le _) (Nat.le_refl _) (Nat.le_refl _) .new ⟨_,.Ad,.Ad,Lv,ha,by rw[Be];omega,Nat.le_refl _,Ko _ rfl _,.inl rfl,.inl ⟨rfl,rfl⟩,.inl ⟨rfl,rfl⟩,trivial⟩ ?_
 exact hk
end
end Go.Den
namespace Go.Den
open Go.RowKit
set_option maxRecDepth 100000
open Go.Lx (Jz bts)
theorem Aqk{sz:Nat}{t:Tm}{L:List (List AV)}(hr:Mv sz 0 t L):Cq t (L.length*sz) 0=L.flatten:=by
 have hM:∀c∈L,c.length=sz:=fun c hc=>by
  obtain⟨i,hi,rfl⟩:=List.mem_iff_getElem.1 hc
  exact(hr i hi).1
 rw[Gt]
 apply List.ext_getElem
 · rw[List.length_map,List.length_range,Aaq L hM]
 · intro p h1 h2
   rw[List.length_map,List.length_range] at h1
   simp only[List.getElem_map,List.getElem_range,Nat.zero_add]
   have hsz:0<sz:=by
    cases sz with
    |zero=>simp at h1
    |succ n=>exact Nat.succ_pos n
   have hi:p / sz<L.length:=Nat.div_lt_of_lt_mul (by rw[Nat.mul_comm];exact h1)
   have hp:p / sz*sz+p%sz=p:=by rw[Nat.mul_comm];exact Nat.div_add_mod p sz
   have hj:p%sz<L[p / sz].length:=by rw[(hr _ hi).1];exact Nat.mod_lt _ hsz
   have e1:=(hr _ hi).2 _ hj
   have e2:=Wd L hM _ _ hi hj
   rw[hp] at e2
   rw[Nat.zero_add,hp] at e1
   rw[e1,←e2,List.getD_eq_getElem?_getD,List.getElem?_eq_getElem h2]
   rfl
def Vq(x:Tok):Db:=⟨(x.kind:Int),x.text,x.space,[102],(x.f:Int),(x.t:Int),false,.Ad⟩
theorem Aj7(T:List Tok):(T.map Vq).map Db.cells=T.map Tok.cells:=by
 rw[List.map_map];rfl
theorem Bg0(x y:AV)(h:H):Aq env .append [22,22] [x,y] h=Dc (some false) x y h 43 (Pa 43):=by kernel_rfl
theorem Biy:(Pa 43).size=8:=by kernel_rfl
theorem A5u{n:Nat}(hn:n≤1099511627776):Cf (Pa 43) n=true:=We (by kernel_rfl) (by kernel_rfl) hn
end Go.Den
