/-
 Proof.
-/
import Derived.Test.YtheajahjkmfeaaaGreatDoorLpx
import Derived.Test.YtheajahjkmfeaaaGreatDoorSml
import Derived.Test.YtheajahjkmfeaaaGreatDoorLpi
import Derived.Test.YtheajahjkmfeaaaGreatDoorBkb
import Derived.Test.YtheajahjkmfeaaaGreatDoorIst
namespace Go.Den
open Go.RowKit
open Go.Lx (Rn bts Au Bt Er Ke toR Fy Gz Ls idL Qt Nh Iz at0 Aaa)
set_option maxRecDepth 100000
def My(s:List UInt8)(n:Nat):Prop:=∀j,j<n→at0 s j≠10
theorem Bj1(x:UInt8)(s:List UInt8)(j:Nat):at0 (x::s) (j+1)=at0 s j:=by unfold at0;rfl
theorem My.c{x:UInt8}{s:List UInt8}{n:Nat}(h:x≠10)(r:My s n):My (x::s) (n+1):=fun j hj=>by
 cases j with
 |zero=>exact h
 |succ j=>rw[Bj1];exact r j (by omega)
theorem My.z(s:List UInt8):My s 0:=fun j hj=>absurd hj (Nat.not_lt_zero _)
theorem Aya(s:List UInt8)(k j:Nat):at0 (s.drop k) j=at0 s (k+j):=by
 unfold at0
 rw[List.getD_eq_getElem?_getD,List.getD_eq_getElem?_getD,List.getElem?_drop]
theorem My.add{s:List UInt8}{n k:Nat}(h:My s k)(r:My (s.drop k) n):My s (k+n):=fun j hj=>by
 by_cases c:j<k
 · exact h j c
 · have:=r (j-k) (by omega)
   rwa [Aya,show k+(j-k)=j by omega] at this
theorem Afd{q:UInt8}:∀{s:List UInt8}{n:Nat},Fy q s=some n→My s n
 |[],n,h=>by simp[Fy] at h
 |[x],n,h=>by
  unfold Fy at h
  split at h
  · cases h
  · rename_i c
    split at h
    · cases h;exact My.c c (.z _)
    · cases h
 |x::y::r,n,h=>by
  unfold Fy at h
  split at h
  · cases h
  · rename_i c
    split at h
    · rename_i c2
      cases e:Fy q r with
      |none=>rw[e] at h;cases h
      |some m=>
       rw[e] at h;cases h
       exact .c c (.c c2.2 (Afd e))
    · split at h
      · cases h;exact .c c (.z _)
      · cases e:Fy q (y::r) with
        |none=>rw[e] at h;cases h
        |some m=>
         rw[e] at h;cases h
         exact .c c (Afd e)
theorem Beh{x:UInt8}(h:(Go.Lx.El x||Go.Lx.isDigit x)=true):x≠10:=fun e=>by subst e;exact absurd h (by decide)
theorem Afl:∀s:List UInt8,My s (Gz s)
 |[]=>.z _
 |[x]=>by
  unfold Gz
  split
  · rename_i h
    exact .c (fun e=>by subst e;exact absurd h (by decide)) (.z _)
  · exact .z _
 |x::y::r=>by
  unfold Gz
  split
  · rename_i h
    have a:x≠10:=fun e=>by subst e;exact absurd h.1 (by decide)
    have b:y≠10:=fun e=>by subst e;exact absurd h.2 (by decide)
    rw[show 2+Gz r=Gz r+1+1 by omega]
    exact .c a (.c b (Afl r))
  · split
    · rename_i h
      rw[Nat.add_comm]
      exact .c (fun e=>by subst e;exact absurd h (by decide)) (Afl (y::r))
    · exact .z _
theorem A8p(s:List UInt8):My s (idL s):=by
 unfold idL
 induction s with
 |nil=>exact .z _
 |cons x s ih=>
  rw[List.takeWhile_cons]
  split
  · rename_i h
    exact .c (Beh h) ih
  · exact .z _
theorem A23:∀{p s:List UInt8},p.isPrefixOf s=true→(∀x∈p,x≠10)→My s p.length
 |[],_,_,_=>.z _
 |x::p,[],h,_=>by cases h
 |x::p,y::s,h,hp=>by
  have h:(x==y&&p.isPrefixOf s)=true:=h
  rw[Bool.and_eq_true] at h
  have e:x=y:=by simpa using h.1
  exact .c (by rw[←e];exact hp x List.mem_cons_self) (A23 h.2 fun z hz=>hp z (List.mem_cons_of_mem _ hz))
theorem A0f(s:List UInt8):My s (Qt s):=by
 unfold Qt
 split
 · rename_i p h
   refine A23 (p:=p) (s:=s) (by have:=List.find?_some h;exact this) ?_
   have:=List.mem_of_find?_eq_some h
   exact(by decide:∀p∈Aaa,∀x∈p,x≠10) p this
 · exact .z _
theorem Ah8{s:List UInt8}(h:at0 s 0≠10):My s (Iz s).2.1:=by
 have one:My s 1:=fun j hj=>by
  obtain rfl:j=0:=by omega
  exact h
 unfold Iz
 split
 · exact one.add (A8p _)
 · split
   · show My s (Ls s)
     unfold Ls
     split
     · exact one.add (Afl _)
     · exact .z _
   · split
     · exact A0f s
     · exact one
theorem A0z{s:List UInt8}{k:Nat}(h:Nh s=some k):My s (k+1):=by
 unfold Nh at h
 split at h
 · rename_i c
   cases h
   intro j hj
   obtain rfl:j=0:=by omega
   intro e;rw[e] at c;exact absurd c (by decide)
 · split at h
   · rename_i c
     cases h
     intro j hj e
     match j,hj with
     |0,_=>rw[e] at c;exact absurd c.1 (by decide)
     |1,_=>rw[e] at c;exact absurd c.2.1 (by decide)
     |2,_=>rw[e] at c;exact absurd c.2.2 (by decide)
   · split at h
     · rename_i c
       cases h
       intro j hj e
       match j,hj with
       |0,_=>rw[e] at c;exact absurd c.1 (by decide)
       |1,_=>rw[e] at c;exact absurd c.2 (by decide)
     · cases h
theorem Aut{s:List UInt8}(h:at0 s 0≠10):My s (Go.Lx.Ds s).2.1:=by
 have one:My s 1:=fun j hj=>by
  obtain rfl:j=0:=by omega
  exact h
 unfold Go.Lx.Ds
 split
 · rename_i k hk
   split
   · rename_i n hn
     exact(A0z hk).add (Afd hn)
   · split
     · exact one
     · exact Ah8 h
 · exact Ah8 h
def rnI:Nat→List UInt8→List Rn
 |_,[]=>[]
 |i,x::s=>(x,i,i+1)::rnI (i+1) s
theorem Ao5:∀(s:List UInt8)(i:Nat),(rnI i s).length=s.length
 |[],_=>rfl
 |x::s,i=>by show(rnI (i+1) s).length+1=s.length+1;rw[Ao5 s (i+1)]
theorem Yi:∀(s:List UInt8)(i:Nat),bts (rnI i s)=s
 |[],_=>rfl
 |x::s,i=>by show x::bts (rnI (i+1) s)=_;rw[Yi s (i+1)]
theorem Ao6:∀(s:List UInt8)(i j:Nat)(h:j<s.length),(rnI i s)[j]? =some (s[j],i+j,i+j+1)
 |[],_,_,h=>absurd h (Nat.not_lt_zero _)
 |x::s,i,0,_=>rfl
 |x::s,i,j+1,h=>by
  have h':j<s.length:=by simpa using h
  show(rnI (i+1) s)[j]? =some (s[j],i+(j+1),i+(j+1)+1)
  rw[Ao6 s (i+1) j h',show i+1+j=i+(j+1) by omega]
theorem Ah1:∀(s:List UInt8)(i:Nat),(∀x∈s,x≠63)→Bt i s=rnI i s
 |[],_,_=>rfl
 |[_],_,_=>rfl
 |[_,_],_,_=>rfl
 |a::b::c::r,i,h=>by
  unfold Bt
  rw[if_neg (fun e=>h a List.mem_cons_self e.1),Ah1 (b::c::r) (i+1) fun x hx=>h x (List.mem_cons_of_mem _ hx)]
  rfl
theorem As4:∀(l:List Rn),(∀x∈l,x.1≠92)→Er l=l
 |[],_=>rfl
 |[_],_=>rfl
 |x::y::r,h=>by
  unfold Er
  rw[if_neg (fun e=>h x List.mem_cons_self e.1),As4 (y::r) fun z hz=>h z (List.mem_cons_of_mem _ hz)]
def Pl5(s:List UInt8):Prop:=∀x∈s,x≠35∧x≠37∧x≠63∧x≠92∧x≠95
theorem Az4{s:List UInt8}{i:Nat}{x:Rn}(h:x∈rnI i s):x.1∈s:=by
 have:=List.mem_map_of_mem (f:=fun r:Rn=>r.1) h
 have e:=Yi s i
 unfold bts at e
 rw[e] at this;exact this
theorem Amc{s:List UInt8}(h:Pl5 s):Dw s=rnI 0 s:=by
 unfold Dw
 rw[Ah1 s 0 fun x hx=>(h x hx).2.2.1,As4 _ fun x hx=>(h _ (Az4 hx)).2.2.2.1]
theorem Aqo{s:List UInt8}(h:Pl5 s):Au s=rnI 0 s∨Au s=rnI 0 s++[(10,s.length,s.length)]:=by
 have:=Amc h
 unfold Dw at this
 unfold Au
 rw[this]
 split
 · exact .inr rfl
 · exact .inl rfl
theorem Ads{s:List UInt8}(h:Pl5 s){j:Nat}(hj:j<s.length):(Au s)[j]? =some (s[j],j,j+1):=by
 have g:=Ao6 s 0 j hj
 rw[Nat.zero_add] at g
 rcases Aqo h with e|e
 · rw[e];exact g
 · rw[e,List.getElem?_append_left (by rw[Ao5];exact hj)];exact g
theorem Alh{s:List UInt8}(h:Pl5 s){j:Nat}(hj:j<s.length):Ke (Au s) j=j:=by
 unfold Ke
 rw[List.getD_eq_getElem?_getD,Ads h hj];rfl
theorem Aw5{s:List UInt8}(h:Pl5 s){j:Nat}(hj:j<s.length):toR (Au s) j=j+1:=by
 unfold toR
 rw[List.getD_eq_getElem?_getD,Ads h hj];rfl
theorem Aqn{s:List UInt8}(h:Pl5 s):bts (Au s)=s∨bts (Au s)=s++[10]:=by
 rcases Aqo h with e|e
 · left;rw[e,Yi]
 · right
   rw[e]
   unfold bts
   rw[List.map_append]
   have:=Yi s 0
   unfold bts at this
   rw[this];rfl
theorem A15{s:List UInt8}(h:Pl5 s){x:UInt8}(hx:x∈bts (Au s)):x≠35∧x≠37∧x≠95:=by
 have g:x∈s∨x=10:=by
  rcases Aqn h with e|e
  · rw[e] at hx;exact .inl hx
  · rw[e] at hx
    rcases List.mem_append.1 hx with q|q
    · exact .inl q
    · exact .inr (by simpa using q)
 rcases g with g|g
 · have:=h x g;exact⟨this.1,this.2.1,this.2.2.2.2⟩
 · subst g;decide
abbrev mL(L:List Rn)(a:Nat):Nat:=(Go.Lx.Ds ((bts L).drop a)).2.1
def Asc(L:List Rn):Nat→List Nat→Prop
 |_,[]=>True
 |lo,a::r=>lo≤a∧a<L.length∧bt (bts L) a≠10∧Asc L (a+mL L a) r
theorem Asc.mono{L:List Rn}{lo lo':Nat}(h:lo'≤lo):∀{l:List Nat},Asc L lo l→Asc L lo' l
 |[],_=>trivial
 |_::_,⟨a,b,c,d⟩=>⟨by omega,b,c,d⟩
theorem Asc.pre{L:List Rn}:∀{l r:List Nat}{lo:Nat},Asc L lo (l++r)→Asc L lo l
 |[],_,_,_=>trivial
 |_::_,_,_,⟨a,b,c,d⟩=>⟨a,b,c,d.pre⟩
theorem A27{L:List Rn}{a:Nat}(h:a<L.length):0<mL L a∧a+mL L a≤L.length:=by
 have:=Go.Lx.Lt (s:=(bts L).drop a) (fun e=>by
  have:=congrArg List.length e
  rw[List.length_drop,Cl] at this
  have:L.length-a=0:=this
  omega)
 rw[List.length_drop,Cl] at this
 show 0<(Go.Lx.Ds ((bts L).drop a)).2.1∧a+(Go.Lx.Ds ((bts L).drop a)).2.1≤L.length
 omega
theorem Asc.len{L:List Rn}:∀{l:List Nat}{lo:Nat},Asc L lo l→lo≤L.length→lo+l.length≤L.length
 |[],_,_,h=>h
 |x::r,lo,⟨a,b,_,d⟩,_=>by
  have m:=A27 b
  have:=d.len m.2
  simp only[List.length_cons];omega
theorem Ajs(L:List Rn):∀(k a:Nat)(sp:Bool)(R:List Nat),Asc L (Dd L k a sp).2.1 R→Asc L a ((Dd L k a sp).1.map (·.1)++R)
 |0,a,_,R,h=>h
 |k+1,a,sp,R,h=>by
  have h1:=Qm L (L.length+2) a sp false
  unfold Dd at h ⊢
  split
  · rename_i c
    rw[if_pos c] at h
    exact h.mono h1
  · rename_i c
    rw[if_neg c] at h
    have hlt:(Di L (L.length+2) a sp false).1<L.length:=by
     rcases Nat.lt_or_ge (Di L (L.length+2) a sp false).1 L.length with h|h
     · exact h
     · exact absurd (.inl h) c
    exact⟨h1,hlt,fun e=>c (.inr e),Ajs L k _ false R h⟩
theorem Adv(L:List Rn)(n:Nat):∀(k a fr:Nat),Asc L a ((Jc L n k a fr).flatMap fun x=>x.1.map (·.1))
 |0,_,_=>trivial
 |k+1,a,fr=>by
  unfold Jc
  split
  · exact trivial
  · rw[List.flatMap_cons]
    exact Ajs L _ a false _ ((Adv L n k _ _).mono (Nat.le_succ _))
theorem Awm(n:Nat)(X:List LnV):(Age n X).map (·.1)=X.map (·.1):=by
 unfold Age
 split
 · rename_i y hy
   rw[List.map_set]
   obtain⟨h,e⟩:=List.getElem?_eq_some_iff.1 hy
   have:(X.map (·.1))[X.length-1]'(by rw[List.length_map];exact h)=y.1:=by rw[List.getElem_map,e]
   show(X.map (·.1)).set (X.length-1) y.1=_
   rw[←this,List.set_getElem_self]
 · rfl
theorem Aat(L:List Rn)(n:Nat):∀(k a fr:Nat),(Jc L n k a fr).length≤k
 |0,_,_=>Nat.le_refl _
 |k+1,a,fr=>by
  unfold Jc
  split
  · exact Nat.zero_le _
  · exact Nat.succ_le_succ (Aat L n k _ _)
theorem Aih(s:List UInt8):(Ff s).length≤s.length+3:=by
 have e:=congrArg List.length (Awm s.length (Jc (Au s) s.length ((Au s).length+2) 0 0))
 rw[List.length_map,List.length_map] at e
 have:=Aat (Au s) s.length ((Au s).length+2) 0 0
 have:=Js s
 unfold Ff
 omega
def Aud(s:List UInt8):List Nat:=((Ff s).map (·.1)).flatMap fun x=>x.map (·.1)
theorem Ah0(s:List UInt8):Asc (Au s) 0 (Aud s):=by
 unfold Aud Ff
 rw[Awm,List.flatMap_map]
 exact Adv _ _ _ _ _
def spP:List (Nat×Bool)→List (Nat×Bool)
 |[]=>[]
 |x::r=>(x.1,true)::r
theorem As5(fl:List UInt8)(L:List Rn)(X:List (Nat×Bool)):spc (Ev fl L X)=Ev fl L (spP X):=by
 cases X with
 |nil=>rfl
 |cons x r=>rfl
theorem Bdf(X:List (Nat×Bool)):(spP X).map (·.1)=X.map (·.1):=by cases X<;>rfl
theorem Akq(fl:List UInt8)(L:List Rn):∀(l:List (List (Nat×Bool)))(f:Bool)(A:List (Nat×Bool)),∃T,En (Ev fl L A) f (l.map (Ev fl L))=Ev fl L T∧T.map (·.1)=A.map (·.1)++l.flatMap fun x=>x.map (·.1)
 |[],_,A=>⟨A,rfl,by simp⟩
 |X::l,f,A=>by
  have e:(Ev fl L A++(if f=true then Ev fl L X else spc (Ev fl L X)))=Ev fl L (A++(if f=true then X else spP X)):=by
   unfold Ev
   rw[List.map_append]
   split
   · rfl
   · have:=As5 fl L X
     unfold Ev at this
     rw[this]
  obtain⟨T,h1,h2⟩:=Akq fl L l false (A++(if f=true then X else spP X))
  refine⟨T,?_,?_⟩
  · show En (Ev fl L A++(if f=true then Ev fl L X else spc (Ev fl L X))) false (l.map (Ev fl L))=_
    rw[e];exact h1
  · rw[h2,List.map_append,List.flatMap_cons]
    have:(if f=true then X else spP X).map (·.1)=X.map (·.1):=by
     split
     · rfl
     · exact Bdf X
    rw[this,List.append_assoc]
theorem Asn(nm s:List UInt8):Mz nm s=((Ff s).map (·.1)).map (Ev nm (Au s)):=by unfold Mz;rw[List.map_map];rfl
theorem Bc9(nm s:List UInt8):∃T,Aco nm s=Ev nm (Au s) T∧T.map (·.1)=Aud s:=by
 obtain⟨T,h1,h2⟩:=Akq nm (Au s) ((Ff s).map (·.1)) true []
 refine⟨T,?_,?_⟩
 · unfold Aco
   rw[Asn];exact h1
 · rw[h2];rfl
theorem A8q(nm s:List UInt8)(hs:s.length≤900)(j:Nat):(En [] true ((Mz nm s).take j)).length≤1000:=by
 obtain⟨T,h1,h2⟩:=Akq nm (Au s) (((Ff s).map (·.1)).take j) true []
 rw[Asn,←List.map_take]
 have h1:En [] true ((((Ff s).map (·.1)).take j).map (Ev nm (Au s)))=Ev nm (Au s) T:=h1
 rw[h1,Aq9]
 have a:=Ah0 s
 have e:Aud s=T.map (·.1)++(((Ff s).map (·.1)).drop j).flatMap (fun x=>x.map (·.1)):=by
  rw[h2]
  unfold Aud
  rw[List.map_nil,List.nil_append,←List.flatMap_append,List.take_append_drop]
 rw[e] at a
 have:=a.pre.len (Nat.zero_le _)
 rw[List.length_map] at this
 have:=Js s
 omega
theorem A4j{s t:List UInt8}(h:S s=S t):s=t:=by
 have h:AV.str s.length (enc s)=AV.str t.length (enc t):=h
 injection h with h1 h2
 exact Zc h1 h2
theorem Azg{s nm:List UInt8}(h:Pl5 s)(hs:s.length≤900)(a:Nat)(sp:Bool):Tkp (Ad5 nm (Au s) a sp)∧(Ad5 nm (Au s) a sp)[1]?≠some (S [35])∧(Ad5 nm (Au s) a sp)[1]?≠some (S [37,58]):=by
 have hm:∀x∈((bts (Au s)).drop a).take (mL (Au s) a),x≠35∧x≠37∧x≠95:=fun x hx=>A15 h (List.mem_of_mem_drop (List.mem_of_mem_take hx))
 refine⟨⟨_,_,_,_,_,_,_,rfl,?_,?_,?_⟩,?_,?_⟩
 · rw[List.length_take,List.length_drop,Cl]
   have:=Js s
   omega
 · intro e;exact(hm 95 (by show(95:UInt8)∈_;rw[e];decide)).2.2 rfl
 · intro e;exact(hm 95 (by show(95:UInt8)∈_;rw[e];decide)).2.2 rfl
 · intro e
   have e:S (((bts (Au s)).drop a).take (mL (Au s) a))=S [35]:=Option.some.inj e
   exact(hm 35 (by rw[A4j e];decide)).1 rfl
 · intro e
   have e:S (((bts (Au s)).drop a).take (mL (Au s) a))=S [37,58]:=Option.some.inj e
   exact(hm 37 (by rw[A4j e];decide)).2.1 rfl
theorem A51{s nm:List UInt8}(h:Pl5 s)(hs:s.length≤900):TxX (Mz nm s):=fun X hX c hc=>by
 unfold Mz at hX
 obtain⟨x,_,e⟩:=List.mem_map.1 hX
 rw[←e] at hc
 unfold Ev at hc
 obtain⟨y,_,e⟩:=List.mem_map.1 hc
 rw[←e]
 exact Azg h hs _ _
end Go.Den
noncomputable section
namespace Go.Den
open Go.RowKit
open Go.Lx (Rn bts Au Bt Er Ke toR at0)
set_option maxRecDepth 100000
def nmA:List UInt8:=[97,46,99]
theorem sA:(.str 3 6499937:AV)=S nmA:=by kernel_rfl
def Qi(nm:List UInt8)(L:List Rn)(x:Nat×Bool):TkA:=⟨Int.ofNat (Go.Lx.Ds ((bts L).drop x.1)).1,((bts L).drop x.1).take (Go.Lx.Ds ((bts L).drop x.1)).2.1,x.2,nm,Int.ofNat (Ke L x.1),Int.ofNat (toR L (x.1+(Go.Lx.Ds ((bts L).drop x.1)).2.1-1)),false,.Ai,[]⟩
theorem Asx(nm:List UInt8)(L:List Rn)(T:List (Nat×Bool)):tks (T.map (Qi nm L))=Ev nm L T:=by unfold tks Ev;rw[List.map_map];rfl
theorem Bj0(B:List UInt8)(a:Nat):at0 (B.drop a) 0=bt B a:=by rw[Jg,Nat.add_zero]
def tEd(s:List UInt8)(a:Nat):Nat:=a+mL (Au s) a
theorem A56{s:List UInt8}(h:Pl5 s){a:Nat}(ha:a<(Au s).length)(h10:bt (bts (Au s)) a≠10):a<s.length∧a<tEd s a∧tEd s a≤s.length∧((bts (Au s)).drop a).take (mL (Au s) a)=(s.drop a).take (mL (Au s) a):=by
 have m:=A27 ha
 have n:=Aut (s:=(bts (Au s)).drop a) (by rw[Bj0];exact h10)
 unfold tEd
 have hl:=Cl (Au s)
 rcases Aqn h with e|e
 · rw[e] at hl
   refine⟨by omega,by omega,by omega,by rw[e]⟩
 · have hl2:=congrArg List.length e
   rw[hl,List.length_append,List.length_singleton] at hl2
   have last:∀j,j<mL (Au s) a→a+j≠s.length:=fun j hj q=>by
    refine n j hj ?_
    rw[Jg,q,e]
    unfold bt
    rw[List.getD_eq_getElem?_getD,List.getElem?_append_right (Nat.le_refl _)];simp
   have l0:=last 0 m.1
   have l1:=last (mL (Au s) a-1) (by omega)
   refine⟨by omega,by omega,by omega,?_⟩
   rw[e,List.drop_append_of_le_length (by omega),List.take_append_of_le_length (by rw[List.length_drop];omega)]
theorem A4c:∀(s:List UInt8)(i f t:Nat),bkR (Int.ofNat f) (Int.ofNat t) (rnI i s)=(s.drop (f-i)).take (t-max f i)
 |[],i,f,t=>by simp[rnI,bkR]
 |x::s,i,f,t=>by
  have ih:=A4c s (i+1) f t
  have e:bkR (Int.ofNat f) (Int.ofNat t) (rnI i (x::s))=(if f≤i∧i+1≤t then[x] else[])++bkR (Int.ofNat f) (Int.ofNat t) (rnI (i+1) s):=by
   show bkR (Int.ofNat f) (Int.ofNat t) ((x,i,i+1)::rnI (i+1) s)=_
   unfold bkR
   by_cases c:f≤i∧i+1≤t
   · rw[if_pos c,List.filter_cons_of_pos (by
      unfold inR
      rw[Bool.and_eq_true]
      exact⟨decide_eq_true (Int.ofNat_le.2 c.1),decide_eq_true (Int.ofNat_le.2 c.2)⟩)]
     rfl
   · rw[if_neg c,List.filter_cons_of_neg (by
      unfold inR
      rw[Bool.and_eq_true]
      intro q
      exact c ⟨Int.ofNat_le.1 (of_decide_eq_true q.1),Int.ofNat_le.1 (of_decide_eq_true q.2)⟩)]
     rfl
  rw[e,ih]
  by_cases c1:f≤i
  · rw[show f-i=0 by omega,show f-(i+1)=0 by omega,show max f i=i by omega,show max f (i+1)=i+1 by omega,List.drop_zero,List.drop_zero]
    by_cases c2:i+1≤t
    · rw[if_pos ⟨c1,c2⟩,show t-i=(t-(i+1))+1 by omega,List.take_succ_cons];rfl
    · rw[if_neg fun q=>c2 q.2,show t-i=0 by omega,show t-(i+1)=0 by omega,List.take_zero,List.take_zero];rfl
  · rw[if_neg fun q=>c1 q.1,show f-i=(f-(i+1))+1 by omega,List.drop_succ_cons,show max f i=max f (i+1) by omega];rfl
structure Txt(hB:H)(p4:P)(vt vd vf va:AV)(s:List UInt8)(T:List (Nat×Bool)):Prop where
 row:Cd hB p4 34 [vt,vd,vf,va,.bool false]
 n4:p4.nat<hB.next.nat
 tk:TkR hB vt (T.map (Qi nmA (Au s)))
 len:T.length≤1000
 asc:Asc (Au s) 0 (T.map (·.1))
 pl:Pl5 s
 hs:s.length≤800
theorem Asc.get{L:List Rn}:∀{l:List Nat}{lo:Nat},Asc L lo l→∀j (h:j<l.length),lo≤l[j]∧l[j]<L.length∧bt (bts L) l[j]≠10
 |[],_,_,j,h=>absurd h (Nat.not_lt_zero _)
 |x::r,lo,⟨a,b,c,d⟩,0,_=>⟨a,b,c⟩
 |x::r,lo,⟨a,b,c,d⟩,j+1,h=>by
  have:=d.get j (by simpa using h)
  exact⟨by show lo≤r[j]'_;have:=this.1;omega,this.2⟩
theorem Asc.two{L:List Rn}:∀{l:List Nat}{lo:Nat},Asc L lo l→∀i j (hi:i<l.length) (hj:j<l.length),i<j→l[i]+mL L l[i]≤l[j]
 |[],_,_,i,_,h,_,_=>absurd h (Nat.not_lt_zero _)
 |x::r,lo,⟨a,b,c,d⟩,0,j+1,_,hj,_=>(d.get j (by simpa using hj)).1
 |x::r,lo,⟨a,b,c,d⟩,i+1,j+1,hi,hj,h=>d.two i j (by simpa using hi) (by simpa using hj) (by omega)
section
variable{hB:H}{p4:P}{vt vd vf va:AV}{s:List UInt8}{T:List (Nat×Bool)}
theorem Txt.pos(x:Txt hB p4 vt vd vf va s T){j:Nat}(hj:j<T.length):T[j].1<s.length∧T[j].1<tEd s T[j].1∧tEd s T[j].1≤s.length∧((bts (Au s)).drop T[j].1).take (mL (Au s) T[j].1)=(s.drop T[j].1).take (mL (Au s) T[j].1):=by
 have g:=x.asc.get j (by rw[List.length_map];exact hj)
 rw[List.getElem_map] at g
 exact A56 x.pl g.2.1 g.2.2
theorem Txt.ord(x:Txt hB p4 vt vd vf va s T){i j:Nat}(hi:i<T.length)(hj:j<T.length)(h:i<j):tEd s T[i].1≤T[j].1:=by
 have g:=x.asc.two i j (by rw[List.length_map];exact hi) (by rw[List.length_map];exact hj) h
 rw[List.getElem_map,List.getElem_map] at g
 exact g
theorem Txt.cell(x:Txt hB p4 vt vd vf va s T){j:Nat}(hj:j<T.length):∃kd,Qi nmA (Au s) T[j]=⟨kd,(s.drop T[j].1).take (mL (Au s) T[j].1),T[j].2,nmA,Int.ofNat T[j].1,Int.ofNat (tEd s T[j].1),false,.Ai,[]⟩:=by
 obtain⟨a,b,c,d⟩:=x.pos hj
 refine⟨Int.ofNat (Go.Lx.Ds ((bts (Au s)).drop T[j].1)).1,?_⟩
 have m:T[j].1+(Go.Lx.Ds ((bts (Au s)).drop T[j].1)).2.1-1<s.length:=by
  unfold tEd mL at b c
  omega
 unfold Qi
 rw[Alh x.pl a,Aw5 x.pl m]
 have d:((bts (Au s)).drop T[j].1).take (Go.Lx.Ds ((bts (Au s)).drop T[j].1)).2.1=(s.drop T[j].1).take (mL (Au s) T[j].1):=d
 rw[d]
 have e:T[j].1+(Go.Lx.Ds ((bts (Au s)).drop T[j].1)).2.1-1+1=tEd s T[j].1:=by
  unfold tEd mL at b ⊢
  omega
 rw[e]
theorem Txt.back(x:Txt hB p4 vt vd vf va s T){j:Nat}(hj:j<T.length):bkR (Int.ofNat T[j].1) (Int.ofNat (tEd s T[j].1)) (Dw s)=(s.drop T[j].1).take (mL (Au s) T[j].1):=by
 rw[Amc x.pl,A4c,Nat.sub_zero,show max T[j].1 0=T[j].1 by omega]
 unfold tEd
 rw[Nat.add_sub_cancel_left]
theorem Txt.Pa(x:Txt hB p4 vt vd vf va s T){i at':Nat}(hat:at'≤T.length)(h1:∀j (hj:j<T.length),j<at'→tEd s T[j].1≤i)(h2:∀(hj:at'<T.length),i<tEd s T[at'].1):∀m,m≤T.length→Pa nmA (Int.ofNat i) (Int.ofNat (i+1)) (T.map (Qi nmA (Au s))) m=if(∃hj:at'<T.length,T[at'].1≤i)∧at'<m then[at'] else[]
 |0,_=>by rw[if_neg fun q=>absurd q.2 (Nat.not_lt_zero _)];rfl
 |m+1,hm=>by
  have hml:m<(T.map (Qi nmA (Au s))).length:=by rw[List.length_map];exact hm
  have hm':m<T.length:=hm
  rw[Ak0 hml,x.Pa hat h1 h2 m (by omega),List.getElem_map]
  obtain⟨kd,e⟩:=x.cell hm'
  have hh:hit nmA (Int.ofNat i) (Int.ofNat (i+1)) (Qi nmA (Au s) T[m])=(decide (T[m].1≤i)&&decide (i<tEd s T[m].1)):=by
   rw[e]
   unfold hit orS
   show((decide (nmA=nmA)&&decide (Int.ofNat T[m].1<Int.ofNat (i+1)))&&decide (Int.ofNat i<Int.ofNat (tEd s T[m].1)))=_
   rw[decide_eq_true (rfl:nmA=nmA),Bool.true_and]
   congr 1
   · exact decide_eq_decide.2 ⟨fun q=>by have:=Int.ofNat_lt.1 q;omega,fun q=>Int.ofNat_lt.2 (by omega)⟩
   · exact decide_eq_decide.2 ⟨fun q=>Int.ofNat_lt.1 q,fun q=>Int.ofNat_lt.2 q⟩
  rw[hh]
  rcases Nat.lt_trichotomy m at' with c|c|c
  · have:=h1 m hm' c
    rw[if_neg fun q=>by omega,if_neg (by rw[decide_eq_false (show¬i<tEd s T[m].1 by omega),Bool.and_false];decide),if_neg fun q=>by omega];rfl
  · subst c
    have:=h2 hm'
    rw[if_neg fun q=>by omega,decide_eq_true this,Bool.and_true,List.nil_append]
    by_cases d:T[m].1≤i
    · rw[if_pos (decide_eq_true d),if_pos ⟨⟨hm',d⟩,by omega⟩]
    · rw[if_neg (by rw[decide_eq_false d];decide),if_neg fun q=>d q.1.2]
  · have ha:at'<T.length:=by omega
    have o:=x.ord ha hm' c
    have:=h2 ha
    have e2:¬T[m].1≤i:=by omega
    have e3:(if(false:Bool)=true then[m] else[])=([]:List Nat):=rfl
    rw[decide_eq_false e2,Bool.false_and,e3,List.append_nil]
    by_cases d:T[at'].1≤i
    · rw[if_pos ⟨⟨ha,d⟩,c⟩,if_pos ⟨⟨ha,d⟩,by omega⟩]
    · rw[if_neg fun q=>d q.1.2,if_neg fun q=>d q.1.2]
end
end Go.Den
