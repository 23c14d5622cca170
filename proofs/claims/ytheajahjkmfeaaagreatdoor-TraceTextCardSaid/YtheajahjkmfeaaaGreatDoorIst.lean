/-
 Proof.
-/
import Derived.Test.YtheajahjkmfeaaaGreatDoorMak
import Derived.Test.YtheajahjkmfeaaaGreatDoorRop
import Derived.Test.YtheajahjkmfeaaaGreatDoorBkb
namespace Go.Den
open Go.RowKit
set_option maxRecDepth 100000
def ltB:List UInt8→List UInt8→Bool
 |[],[]=>false
 |[],_::_=>true
 |_::_,[]=>false
 |a::s,b::t=>if a.toNat<b.toNat then true else if a.toNat=b.toNat then ltB s t else false
theorem Bef(a b:UInt8)(s t:List UInt8):ltB (a::s) (b::t)=if a.toNat<b.toNat then true else if a.toNat=b.toNat then ltB s t else false:=by rw[ltB]
theorem Xo:∀s t:List UInt8,Kv (s.map (·.toNat)) (t.map (·.toNat))=ltB s t
 |[],[]=>rfl
 |[],_::_=>rfl
 |_::_,[]=>rfl
 |a::s,b::t=>by
  have e:Kv ((a::s).map (·.toNat)) ((b::t).map (·.toNat))=(Bool.rec (Bool.rec false (Kv (s.map (·.toNat)) (t.map (·.toNat))) (Nat.beq a.toNat b.toNat)) true (Nat.ble (Nat.add a.toNat 1) b.toNat):Bool):=rfl
  rw[e,Xo s t,Bef]
  by_cases h:a.toNat<b.toNat
  · rw[if_pos h,show Nat.ble (Nat.add a.toNat 1) b.toNat=true from Nat.ble_eq_true_of_le h]
  · rw[if_neg h]
    have h':Nat.ble (Nat.add a.toNat 1) b.toNat=false:=by
     cases q:Nat.ble (Nat.add a.toNat 1) b.toNat with
     |false=>rfl
     |true=>exact absurd (Nat.le_of_ble_eq_true q) h
    rw[h']
    by_cases h2:a.toNat=b.toNat
    · rw[if_pos h2,h2,Nat.beq_refl]
    · rw[if_neg h2]
      have h2':Nat.beq a.toNat b.toNat=false:=by
       cases q:Nat.beq a.toNat b.toNat with
       |false=>rfl
       |true=>exact absurd (Nat.eq_of_beq_eq_true q) h2
      rw[h2']
theorem A0r(s t:List UInt8):ltS s.length (enc s) t.length (enc t)=ltB s t:=by
 unfold ltS
 rw[Ho,Ho,Xo]
theorem Apt:∀s:List UInt8,ltB s s=false
 |[]=>rfl
 |a::s=>by unfold ltB;rw[if_neg (Nat.lt_irrefl _),if_pos rfl,Apt s]
theorem Auz:∀{a b c:List UInt8},ltB a b=true→ltB b c=true→ltB a c=true
 |[],[],_,h,_=>by cases h
 |[],_::_,[],_,h=>by cases h
 |[],_::_,_::_,_,_=>rfl
 |_::_,[],_,h,_=>by cases h
 |_::_,_::_,[],_,h=>by cases h
 |a::s,b::t,c::u,h1,h2=>by
  unfold ltB at h1 h2 ⊢
  by_cases q1:a.toNat<b.toNat
  · by_cases q2:b.toNat<c.toNat
    · rw[if_pos (by omega)]
    · rw[if_neg q2] at h2
      by_cases q3:b.toNat=c.toNat
      · rw[if_pos (by omega)]
      · rw[if_neg q3] at h2;cases h2
  · rw[if_neg q1] at h1
    by_cases q3:a.toNat=b.toNat
    · rw[if_pos q3] at h1
      by_cases q2:b.toNat<c.toNat
      · rw[if_pos (by omega)]
      · rw[if_neg q2] at h2
        by_cases q4:b.toNat=c.toNat
        · rw[if_pos q4] at h2
          rw[if_neg (by omega),if_pos (by omega)]
          exact Auz h1 h2
        · rw[if_neg q4] at h2;cases h2
    · rw[if_neg q3] at h1;cases h1
theorem Aps:∀{a b:List UInt8},ltB a b=false→ltB b a=false→a=b
 |[],[],_,_=>rfl
 |[],_::_,h,_=>by cases h
 |_::_,[],_,h=>by cases h
 |a::s,b::t,h1,h2=>by
  unfold ltB at h1 h2
  by_cases q1:a.toNat<b.toNat
  · rw[if_pos q1] at h1;cases h1
  · rw[if_neg q1] at h1
    by_cases q2:b.toNat<a.toNat
    · rw[if_pos q2] at h2;cases h2
    · rw[if_neg q2] at h2
      have e:a.toNat=b.toNat:=by omega
      rw[if_pos e] at h1
      rw[if_pos e.symm] at h2
      rw[Aps h1 h2,UInt8.toNat_inj.1 e]
abbrev Fl:=List UInt8×List UInt8
def Bl:List Fl→List UInt8→Option (List UInt8)
 |[],_=>none
 |f::r,p=>if f.1=p then some f.2 else Bl r p
def Ris:List Fl→Prop
 |[]=>True
 |f::r=>(∀g∈r,ltB f.1 g.1=true)∧Ris r
def kAt:List Fl→List UInt8→Nat
 |[],_=>0
 |f::r,p=>if ltB f.1 p=true then kAt r p+1 else 0
def Sn(p x:List UInt8):List Fl→List Fl
 |[]=>[(p,x)]
 |f::r=>if ltB f.1 p=true then f::Sn p x r else(p,x)::f::r
theorem Afp:∀(l:List Fl)(p:List UInt8),kAt l p≤l.length
 |[],_=>Nat.le_refl _
 |f::r,p=>by
  unfold kAt
  split
  · exact Nat.succ_le_succ (Afp r p)
  · exact Nat.zero_le _
theorem Acp:∀{l:List Fl}{p:List UInt8},(∀g∈l,g.1≠p)→Bl l p=none
 |[],_,_=>rfl
 |f::r,p,h=>by
  unfold Bl
  rw[if_neg (h f (by simp)),Acp fun g hg=>h g (List.mem_cons_of_mem _ hg)]
theorem Au9:∀{l:List Fl}{p:List UInt8}{i:Nat}(h:i<l.length),i<kAt l p→ltB l[i].1 p=true
 |f::r,p,0,_,hi=>by
  unfold kAt at hi
  split at hi
  · assumption
  · cases hi
 |f::r,p,i+1,h,hi=>by
  unfold kAt at hi
  split at hi
  · exact Au9 (l:=r) (Nat.lt_of_succ_lt_succ h) (Nat.lt_of_succ_lt_succ hi)
  · cases hi
theorem Apv:∀{l:List Fl}{p:List UInt8}(h:kAt l p<l.length),ltB l[kAt l p].1 p=false
 |f::r,p,h=>by
  by_cases q:ltB f.1 p=true
  · have e:kAt (f::r) p=kAt r p+1:=by rw[kAt,if_pos q]
    simp only[e] at h ⊢
    exact Apv (l:=r) (Nat.lt_of_succ_lt_succ h)
  · have e:kAt (f::r) p=0:=by rw[kAt,if_neg q]
    simp only[e,List.getElem_cons_zero]
    exact Bool.eq_false_iff.2 q
theorem Agv:∀{l:List Fl}{p:List UInt8},Ris l→(∀h:kAt l p<l.length,l[kAt l p].1=p→Bl l p=some l[kAt l p].2)∧((¬∃h:kAt l p<l.length,l[kAt l p].1=p)→Bl l p=none)
 |[],_,_=>And.intro (fun h=>(by cases h)) (fun _=>rfl)
 |f::r,p,hr=>by
  obtain⟨h1,h2⟩:=Agv (p:=p) hr.2
  by_cases q:ltB f.1 p=true
  · have e:kAt (f::r) p=kAt r p+1:=by rw[kAt,if_pos q]
    have ne:f.1≠p:=fun e'=>by rw[e',Apt] at q;cases q
    have et:Bl (f::r) p=Bl r p:=by rw[Bl,if_neg ne]
    rw[et]
    simp only[e,List.getElem_cons_succ,List.length_cons,Nat.add_lt_add_iff_right]
    exact⟨h1,h2⟩
  · have e:kAt (f::r) p=0:=by rw[kAt,if_neg q]
    simp only[e,List.getElem_cons_zero]
    refine⟨fun _ e'=>by rw[Bl,if_pos e'],fun hno=>Acp fun g hg e'=>?_⟩
    rcases List.mem_cons.1 hg with rfl|hg
    · exact hno ⟨Nat.succ_pos _,e'⟩
    · have:=hr.1 g hg
      rw[e'] at this
      exact q this
theorem Afs:∀(l:List Fl)(p x:List UInt8),Sn p x l=l.take (kAt l p)++(p,x)::l.drop (kAt l p)
 |[],_,_=>rfl
 |f::r,p,x=>by
  by_cases q:ltB f.1 p=true
  · have e:kAt (f::r) p=kAt r p+1:=by rw[kAt,if_pos q]
    rw[Sn,if_pos q,e,List.take_succ_cons,List.drop_succ_cons,Afs r p x];rfl
  · have e:kAt (f::r) p=0:=by rw[kAt,if_neg q]
    rw[Sn,if_neg q,e];rfl
theorem Aa1{p x:List UInt8}:∀{l:List Fl}{g:Fl},g∈Sn p x l→g=(p,x)∨g∈l
 |[],g,h=>.inl (List.mem_singleton.1 h)
 |f::r,g,h=>by
  unfold Sn at h
  split at h
  · rcases List.mem_cons.1 h with rfl|h
    · exact .inr (by simp)
    · exact(Aa1 h).imp id fun h=>List.mem_cons_of_mem _ h
  · rcases List.mem_cons.1 h with rfl|h
    · exact .inl rfl
    · exact .inr h
theorem Aiq{p x:List UInt8}:∀{l:List Fl},Ris l→Bl l p=none→Ris (Sn p x l)
 |[],_,_=>And.intro (fun g hg=>(by cases hg)) trivial
 |f::r,hr,hn=>by
  have ne:f.1≠p:=fun e=>by rw[Bl,if_pos e] at hn;cases hn
  have hn':Bl r p=none:=by rw[Bl,if_neg ne] at hn;exact hn
  unfold Sn
  by_cases q:ltB f.1 p=true
  · rw[if_pos q]
    refine⟨fun g hg=>?_,Aiq hr.2 hn'⟩
    rcases Aa1 hg with rfl|hg
    · exact q
    · exact hr.1 g hg
  · rw[if_neg q]
    have hp:ltB p f.1=true:=by
     cases e:ltB p f.1 with
     |true=>rfl
     |false=>exact absurd (Aps (Bool.eq_false_iff.2 q) e) ne
    refine⟨fun g hg=>?_,hr⟩
    rcases List.mem_cons.1 hg with rfl|hg
    · exact hp
    · exact Auz hp (hr.1 g hg)
theorem Wu{p x:List UInt8}:∀{l:List Fl},Bl l p=none→∀q,Bl (Sn p x l) q=if p=q then some x else Bl l q
 |[],_,q=>rfl
 |f::r,hn,q=>by
  have ne:f.1≠p:=fun e=>by rw[Bl,if_pos e] at hn;cases hn
  have hn':Bl r p=none:=by rw[Bl,if_neg ne] at hn;exact hn
  unfold Sn
  by_cases c:ltB f.1 p=true
  · rw[if_pos c]
    rw[Bl,Wu hn' q]
    by_cases e:f.1=q
    · rw[if_pos e,if_neg fun e'=>ne (by rw[e,e']),Bl,if_pos e]
    · rw[if_neg e,Bl,if_neg e]
  · rw[if_neg c];rfl
theorem Xn{p x:List UInt8}:∀{l:List Fl},Bl l p=none→∀q,Bl (l++[(p,x)]) q=if p=q then some x else Bl l q
 |[],_,q=>rfl
 |f::r,hn,q=>by
  have ne:f.1≠p:=fun e=>by rw[Bl,if_pos e] at hn;cases hn
  have hn':Bl r p=none:=by rw[Bl,if_neg ne] at hn;exact hn
  show Bl (f::(r++[(p,x)])) q=_
  rw[Bl,Xn hn' q]
  by_cases e:f.1=q
  · rw[if_pos e,if_neg fun e'=>ne (by rw[e,e']),Bl,if_pos e]
  · rw[if_neg e,Bl,if_neg e]
end Go.Den
namespace Go.Den
open Go.RowKit
set_option maxRecDepth 100000
theorem Azj(l c:Nat):Dv l c l c=true:=by unfold Dv;rw[Nat.beq_refl,Nat.beq_refl];rfl
theorem Ue{s t:List UInt8}{l c:Nat}(hl:t.length=l)(hc:enc t=c):Dv s.length (enc s) l c=decide (s=t):=by
 subst hl hc;exact Fj
theorem A8j(k:IntKind):Aft k k=true:=by cases k<;>rfl
theorem Akz(n:Int):Bx n n=true:=by rw[Jw];exact beq_self_eq_true n
def smp(v:AV):Prop:=(∃l c,v=.str l c)∨(∃k n,v=.int k n)∨(∃b,v=.bool b)∨v=.Ai∨(∃b o n z t,v=.slice b o n z t)∨v=.Cm∨∃q o,v=.ptr q o
theorem Ax7{n:Nat}{v:AV}(h:smp v):Ajr (n+1) v v=true:=by
 rcases h with⟨l,c,rfl⟩|⟨k,m,rfl⟩|⟨b,rfl⟩|rfl|⟨b,o,m,z,t,rfl⟩|rfl|⟨q,o,rfl⟩
 · show An (Nat.beq l l) (Nat.beq c c)=true
   rw[Nat.beq_refl,Nat.beq_refl];rfl
 · show An (Aft k k) (Bx m m)=true
   rw[A8j,Akz];rfl
 · exact Xg b
 · rfl
 · show An (An (P.beq b b) (Nat.beq o o)) (An (An (Nat.beq m m) (Nat.beq z z)) (Ajq t t))=true
   rw[P.beq_refl,Nat.beq_refl,Nat.beq_refl,Nat.beq_refl,Xg];rfl
 · rfl
 · show An (P.beq q q) (Nat.beq o o)=true
   rw[P.beq_refl,Nat.beq_refl];rfl
theorem Gm{v:AV}{A:Prop}(h:smp v)(hA:A):eqC v v A:=by
 unfold eqC
 rw[Ax7 h];exact hA
def FsP(h:H):Es→List Fl→Prop
 |[],[]=>True
 |e::es,f::fs=>e.1=S f.1∧Eb 4 h e.2.1 f.2∧(∃q,e.2.1=.ptr q 0)∧FsP h es fs
 |_,_=>False
theorem FsP.mono{h h':H}:∀{es:Es}{fs:List Fl},FsP h es fs→(∀v s,Eb 4 h v s→Eb 4 h' v s)→FsP h' es fs
 |[],[],_,_=>trivial
 |_::_,_::_,⟨h1,h2,h3,h4⟩,hm=>⟨h1,hm _ _ h2,h3,FsP.mono h4 hm⟩
 |[],_::_,h,_=>h.elim
 |_::_,[],h,_=>h.elim
theorem Af5{p s:List UInt8}{v:AV}{b:Nat}{es:Es}{i:Nat}:Ee (S p) ((S s,v,b)::es) i=(Bool.rec (Ee (S p) es (Nat.add i 1)) (some (some (v,b,i))) (Dv p.length (enc p) s.length (enc s)):Option Hit):=rfl
theorem FsP.look{h:H}{p:List UInt8}:∀{es:Es}{fs:List Fl}(i:Nat),FsP h es fs→(Bl fs p=none∧Ee (S p) es i=some none)∨∃x v b j,Bl fs p=some x∧Ee (S p) es i=some (some (v,b,j))∧Eb 4 h v x∧∃q,v=.ptr q 0
 |[],[],_,_=>.inl ⟨rfl,rfl⟩
 |[],_::_,_,h=>h.elim
 |_::_,[],_,h=>h.elim
 |(k,v,b)::es,f::fs,i,⟨h1,h2,h3,h4⟩=>by
  have h1:k=S f.1:=h1
  subst h1
  rw[Af5,Fj]
  by_cases e:p=f.1
  · rw[decide_eq_true e]
    exact .inr ⟨f.2,v,b,i,by rw[Bl,if_pos e.symm],rfl,h2,h3⟩
  · rw[decide_eq_false e,Bl,if_neg fun q=>e q.symm]
    exact FsP.look (Nat.add i 1) h4
structure Sq(h:H)(pT pF pV:P)(fs:List Fl):Prop where
 row:AtP h pT 0 [.Ai,.map pF,.map pV]
 nT:pT.nat<h.next.nat
 nF:pF.nat<h.next.nat
 nV:pV.nat<h.next.nat
 ne:pF≠pV
 files:∃es ck,h.at pF=.map es ck∧FsP h es fs∧es.length=fs.length
 Aq8:∃es ck,h.at pV=.map es ck∧es.map (·.1)=fs.map fun f=>S f.1
theorem Sq.ext{h h':H}{pT pF pV:P}{fs:List Fl}(t:Sq h pT pF pV fs)(x:Exh h h'):Sq h' pT pF pV fs:=by
 obtain⟨es,ck,h1,h2,h3⟩:=t.files
 obtain⟨ev,cv,g1,g2⟩:=t.Aq8
 exact⟨t.row.ext x t.nT,Nat.lt_of_lt_of_le t.nT x.1,Nat.lt_of_lt_of_le t.nF x.1,Nat.lt_of_lt_of_le t.nV x.1,t.ne,⟨es,ck,by rw[x.2 _ t.nF];exact h1,h2.mono fun _ _ r=>r.ext x,h3⟩,⟨ev,cv,by rw[x.2 _ t.nV];exact g1,g2⟩⟩
theorem A89(q:P):Hh env .eql 23 (.ptr q 0) .Cm=some (.bool false):=by kernel_rfl
theorem A7z(q:P)(l c:Nat)(h:H):Db env 76 (.map q) (.str l c) true h=(Option.rec none (fun p=>Fv env 80 true (Ee (.str l c) p.1 0) h) (Kt (h.at q)):Option (AV×H)):=by kernel_rfl
theorem A0w(h:H):Fv env 80 true (some none) h=some (.tuple [.Cm,.bool false],h):=by kernel_rfl
theorem Sq.get{h:H}{pT pF pV:P}{fs:List Fl}(t:Sq h pT pF pV fs)(p:List UInt8){K:KV}(hk:∀v,(Bl fs p=none∧v=.Cm)∨(∃x,Bl fs p=some x∧Eb 4 h v x∧∃q,v=.ptr q 0)→K (.tuple [v,.bool (Bl fs p).isSome]) h):oK (Db env 76 (.map pF) (.str p.length (enc p)) true h) K:=by
 obtain⟨es,ck,h1,h2,_⟩:=t.files
 rw[A7z,h1]
 show oK (Fv env 80 true (Ee (S p) es 0) h) K
 rcases h2.look (p:=p) 0 with⟨e1,e2⟩|⟨x,v,b,j,e1,e2,e3,e4⟩
 · rw[e2,A0w,Ad]
   have:=hk .Cm (.inl ⟨e1,rfl⟩)
   rw[e1] at this;exact this
 · rw[e2]
   show oK (some (.tuple [v,.bool true],h)) K
   rw[Ad]
   have:=hk v (.inr ⟨x,e1,e3,e4⟩)
   rw[e1] at this;exact this
theorem c32{h:H}{pT pF pV:P}{fs:List Fl}(t:Sq h pT pF pV fs)(p:List UInt8){k:KV}(hk:∀v,(Bl fs p=none∧v=.Cm)∨(∃x,Bl fs p=some x∧Eb 4 h v x∧∃q,v=.ptr q 0)→k (.tuple [v,.bool (Bl fs p).isSome]) h):W1 (.func 32) [.ptr pT 0,S p] h k:=by
 refine w32 (n:=1) Bg (g32 ?_)
 unfold Aog
 rw[A89,Uu,Bn]
 refine Cp rfl ?_
 rw[Am,Ad,Ae]
 refine t.row.ld1 (j:=1) (by show 1<3;decide) ?_
 refine t.get p fun v hv=>?_
 rw[Hu,Ht,Bn]
 exact hk v hv
def Sht(fs:List Fl):Prop:=∀f∈fs,f.2.length≤2048
end Go.Den
noncomputable section
namespace Go.Den
open Go.RowKit
set_option maxRecDepth 100000
def SlR(sz:Nat)(h:H)(v:AV)(L:List (List AV)):Prop:=(v=.Ai∧L=[])∨Rd sz h v L
theorem SlR.len{sz:Nat}{h:H}{v:AV}{L:List (List AV)}(hr:SlR sz h v L){K:Nat→Prop}:Cz v K=K L.length:=by
 rcases hr with⟨rfl,rfl⟩|hr
 · rfl
 · exact hr.len
theorem SlR.ext{sz:Nat}{h h':H}{v:AV}{L:List (List AV)}(hr:SlR sz h v L)(x:Exh h h'):SlR sz h' v L:=hr.imp id fun hr=>hr.ext x
theorem SlR.rd{sz:Nat}{h:H}{v:AV}{L:List (List AV)}(hr:SlR sz h v L){i:Nat}(hi:i<L.length):Rd sz h v L:=hr.resolve_left fun e=>by rw[e.2] at hi;cases hi
def fcs(l:List Fl):List (List AV):=l.map fun f=>[S f.1,S f.2]
theorem Je(l:List Fl):(fcs l).length=l.length:=List.length_map ..
theorem Vg{l:List Fl}{i:Nat}(h:i<l.length)(h':i<(fcs l).length):(fcs l)[i]=[S l[i].1,S l[i].2]:=List.getElem_map ..
def scs(l:List (List UInt8)):List (List AV):=l.map fun s=>[S s]
theorem Fc(l:List (List UInt8)):(scs l).length=l.length:=List.length_map ..
theorem Of{l:List (List UInt8)}{i:Nat}(h:i<l.length)(h':i<(scs l).length):(scs l)[i]=[S l[i]]:=List.getElem_map ..
structure Bbl(h:H)(pm:P)(ls:List Fl)(ns:List (List UInt8)):Prop where
 nm:pm.nat<h.next.nat
 row:∃t,h.at pm=.row t 4 0 57 true∧SlR 2 h (Aw t 1) (fcs ls)∧SlR 1 h (Aw t 2) (scs ns)∧SlR 1 h (Aw t 3) (ns.map fun _=>[.int .i64 (.ofNat 1)])
 ris:Ris ls
 len:ls.length≤1000
theorem A39{h:H}{pm:P}{ls:List Fl}{ns:List (List UInt8)}(tb:Bbl h pm ls ns){p:List UInt8}{k:KV}(hk:k (.tuple [.int .i64 (.ofNat (kAt ls p)),.bool (Bl ls p).isSome]) h):∀(n i:Nat),ls.length+1-i<n→i≤kAt ls p→(r29 W1 k n).a1 (.ptr pm 0) p.length (enc p) (Int.ofNat i) h
 |0,_,hn,_=>absurd hn (Nat.not_lt_zero _)
 |n+1,i,hn,hi=>by
  have hle:=Afp ls p
  have tl:=tb.len
  obtain⟨t,h1,h2,_,_⟩:=tb.row
  refine Bfd ?_
  unfold Aol
  have rd:∀{K:AV→H→Prop},K (Aw t 1) h→oK (Ag (.ptr pm 0) h) fun v1 h2=>Ac 1 v1 fun v3=>ld1 v3 h2 fun v4=>K v4 h2:=fun hK=>by
   rw[Am,Ad,Ae]
   exact Eh h1 (by decide) hK
  refine rd ?_
  rw[h2.len,Je,ilt]
  refine Fa (fun e=>?_) (fun e=>?_)
  · have e:i<ls.length:=of_decide_eq_true e
    have e':i<(fcs ls).length:=by rw[Je];exact e
    refine rd ?_
    refine Dg ((h2.rd e').fld (j:=0) e' (by rw[Vg e];show 0<2;decide) ?_)
    simp only[Vg e,List.getElem_cons_zero]
    rw[Eg,A0r]
    refine Br (fun q=>?_) (fun q=>?_)
    · refine Bw (by omega) ?_
      refine A39 tb hk n (i+1) (by omega) ?_
      rcases Nat.lt_or_ge i (kAt ls p) with w|w
      · exact w
      · have:i=kAt ls p:=by omega
        subst this
        rw[Apv e] at q;cases q
    · have hik:i=kAt ls p:=by
       rcases Nat.lt_or_ge i (kAt ls p) with w|w
       · rw[Au9 e w] at q;cases q
       · omega
      refine rd ?_
      rw[h2.len,Je,ilt,decide_eq_true e]
      refine Fa (fun _=>?_) (fun q=>by cases q)
      refine rd ?_
      refine Dg ((h2.rd e').fld (j:=0) e' (by rw[Vg e];show 0<2;decide) ?_)
      simp only[Vg e,List.getElem_cons_zero]
      rw[Eg,Fj]
      subst hik
      have ht:=Agv (p:=p) tb.ris
      by_cases q2:ls[kAt ls p].1=p
      · rw[ht.1 e q2] at hk
        rw[decide_eq_true q2];exact hk
      · rw[ht.2 fun⟨_,w⟩=>q2 w] at hk
        rw[decide_eq_false q2];exact hk
  · have e:¬i<ls.length:=of_decide_eq_false e
    have hik:i=kAt ls p:=by omega
    refine Cp rfl (rd ?_)
    rw[h2.len,Je,ilt,decide_eq_false e]
    refine Fa (fun q=>by cases q) fun _=>?_
    have ht:=Agv (p:=p) tb.ris
    rw[ht.2 fun⟨w,_⟩=>by omega] at hk
    rw[hik];exact hk
theorem c29{h:H}{pm:P}{ls:List Fl}{ns:List (List UInt8)}(tb:Bbl h pm ls ns){p:List UInt8}{k:KV}(hk:k (.tuple [.int .i64 (.ofNat (kAt ls p)),.bool (Bl ls p).isSome]) h):W1 (.func 29) [.ptr pm 0,S p] h k:=by
 refine w29 (n:=ls.length+3) Bg (g29 ?_)
 unfold Aom
 exact A39 tb hk _ 0 (by omega) (Nat.zero_le _)
end Go.Den
namespace Go.Den
open Go.RowKit
set_option maxRecDepth 100000
def ics(l:List Nat):List (List AV):=l.map fun n=>[.int .i64 (.ofNat n)]
theorem Afu(l:List Nat):(ics l).length=l.length:=List.length_map ..
theorem A08{l:List Nat}{i:Nat}(h:i<l.length)(h':i<(ics l).length):(ics l)[i]=[.int .i64 (.ofNat l[i])]:=List.getElem_map ..
theorem Bjf{h:H}{v w:AV}{l:List Nat}(hv:SlR 1 h v (ics l))(hw:SlR 1 h w (ics l))(hl:l.length≤1000000){k:KV}(hk:k (.bool true) h):∀(n i:Nat),l.length-i<n→i≤l.length→(r8 W1 k n).a1 v w (Int.ofNat i) h
 |0,_,hn,_=>absurd hn (Nat.not_lt_zero _)
 |n+1,i,hn,hi=>by
  refine Bm0 ?_
  unfold Azu
  rw[hv.len,Afu,ilt]
  refine Br (fun e=>?_) (fun _=>hk)
  have e:i<l.length:=of_decide_eq_true e
  have e':i<(ics l).length:=by rw[Afu];exact e
  have rd:∀{u:AV}{K:Int→Prop},SlR 1 h u (ics l)→K (Int.ofNat l[i])→Cc 1 i u fun a=>ld1 a h fun x=>asI .i64 x K:=fun hu hK=>by
   refine(hu.rd e').elem e' fun q o _ _ ha=>?_
   rw[A08 e] at ha
   refine ha.ld1 (j:=0) (by show 0<1;decide) ?_
   show asI .i64 (.int .i64 (.ofNat l[i])) _
   rw[Bj];exact hK
  refine Dg (rd hv (Dg (rd hw ?_)))
  rw[Wx,decide_eq_true rfl]
  refine Cp rfl (Bw (by omega) ?_)
  exact Bjf hv hw hl hk n (i+1) (by omega) e
theorem c8{h:H}{v w:AV}{l:List Nat}(hv:SlR 1 h v (ics l))(hw:SlR 1 h w (ics l))(hl:l.length≤1000000){k:KV}(hk:k (.bool true) h):W1 (.func 8) [v,w] h k:=by
 refine w8 (n:=l.length+2) Bg (g8 ?_)
 unfold Azv
 rw[hv.len,hw.len,Wx,decide_eq_true rfl]
 exact Cp rfl (Bjf hv hw hl hk _ 0 (by omega) (Nat.zero_le _))
end Go.Den
