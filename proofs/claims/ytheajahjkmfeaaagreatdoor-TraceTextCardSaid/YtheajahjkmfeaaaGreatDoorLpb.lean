/-
 Proof.
-/
import Derived.Test.YtheajahjkmfeaaaGreatDoorLpa
noncomputable section
namespace Go.Den
open Go.RowKit
set_option maxRecDepth 100000
open Go.Lx (Rn bts Bt Er Ke toR Fy Gz Ls Rh Kz Iz Nh idL Qt at0)
theorem drop_cons{B:List UInt8}{j:Nat}(h:j<B.length):B.drop j=B[j]::B.drop (j+1):=List.drop_eq_getElem_cons h
theorem Afc{q x y:UInt8}{r:List UInt8}:Fy q (x::y::r)=if x=10 then none else if x=92∧y≠10 then(Fy q r).map (·+2) else if x=q then some 1 else(Fy q (y::r)).map (·+1):=by rw[Fy]
theorem Akk{q x:UInt8}:Fy q [x]=if x=10 then none else if x=q then some 1 else none:=by rw[Fy]
def Np(q:UInt8)(B:List UInt8)(a i:Nat):Nat:=match Fy q (B.drop (a+i)) with
 |some n=>i+n
 |none=>0
theorem Aje{q:UInt8}{B:List UInt8}{a i:Nat}(h:B.length≤a+i):Np q B a i=0:=by
 unfold Np;rw[List.drop_eq_nil_of_le h];simp[Fy]
theorem A12{q:UInt8}{B:List UInt8}{a i:Nat}(h:a+i<B.length)(e:B[a+i]=10):Np q B a i=0:=by
 unfold Np
 rw[drop_cons h,e]
 cases B.drop (a+i+1) with
 |nil=>simp[Fy]
 |cons y r=>simp[Fy]
theorem Aw2{q:UInt8}{B:List UInt8}{a i:Nat}(h:a+i+1<B.length)(e:B[a+i]=92)(e1:B[a+i+1]≠10):Np q B a i=Np q B a (i+2):=by
 unfold Np
 rw[drop_cons (show a+i<B.length by omega),drop_cons h,e]
 rw[Afc,if_neg (by decide),if_pos ⟨rfl,e1⟩,show a+(i+2)=a+i+1+1 by omega]
 cases Fy q (B.drop (a+i+1+1)) with
 |none=>rfl
 |some n=>show i+(n+2)=i+2+n;omega
theorem Adq{q:UInt8}{B:List UInt8}{a i:Nat}(h:a+i<B.length)(hq:q≠92)(e:B[a+i]=92)(h1:∀h1:a+i+1<B.length,B[a+i+1]=10):Np q B a i=0:=by
 unfold Np
 rw[drop_cons h,e]
 cases hd:B.drop (a+i+1) with
 |nil=>rw[Akk,if_neg (by decide),if_neg (fun e=>hq e.symm)]
 |cons y r=>
  have h2:a+i+1<B.length:=by
   rcases Nat.lt_or_ge (a+i+1) B.length with h1|h1
   · exact h1
   · rw[List.drop_eq_nil_of_le h1] at hd;cases hd
  rw[drop_cons h2,h1 h2] at hd
  have hy:y=10:=by injection hd with a b;exact a.symm
  subst hy
  rw[Afc,if_neg (by decide),if_neg (fun e=>e.2 rfl),if_neg (fun e=>hq e.symm)]
  cases r with
  |nil=>simp[Fy]
  |cons z r=>simp[Fy]
theorem Bar{q:UInt8}{B:List UInt8}{a i:Nat}(h:a+i<B.length)(e:B[a+i]=q)(e10:B[a+i]≠10)(e92:B[a+i]≠92):Np q B a i=i+1:=by
 unfold Np
 rw[drop_cons h]
 cases hd:B.drop (a+i+1) with
 |nil=>rw[Akk,if_neg e10,if_pos e]
 |cons y r=>rw[Afc,if_neg e10,if_neg (fun e'=>e92 e'.1),if_pos e]
theorem A14{q:UInt8}{B:List UInt8}{a i:Nat}(h:a+i<B.length)(e:B[a+i]≠q)(e10:B[a+i]≠10)(e92:B[a+i]≠92):Np q B a i=Np q B a (i+1):=by
 unfold Np
 rw[drop_cons h,show a+(i+1)=a+i+1 from rfl]
 cases hd:B.drop (a+i+1) with
 |nil=>rw[Akk,if_neg e10,if_neg e];simp[Fy]
 |cons y r=>
  rw[Afc,if_neg e10,if_neg (fun e'=>e92 e'.1),if_neg e]
  cases Fy q (y::r) with
  |none=>rfl
  |some n=>show i+(n+1)=i+1+n;omega
section
variable{h:H}{pW:P}{fl:List UInt8}{L:List Rn}{a:Nat}{vd:AV}{sp:Bool}{q:Int}
theorem Axk(w:Wk h pW fl L a vd sp q){c:UInt8}(hc:c≠92)(hl:L.length≤1000000)(ha:a≤L.length){k:KV}:∀(n i:Nat),2*(L.length-i)+2<n→a+i≤L.length+1→k (.int .i64 (Int.ofNat (Np c (bts L) a i))) h→(Zy W1 k n).a1 (.ptr pW 0) (Int.ofNat c.toNat) (Int.ofNat i) h
 |0,_,hh,_,_=>absurd hh (Nat.not_lt_zero _)
 |n+1,i,hh,hi,hk=>by
  refine A73 ?_
  unfold Aeb
  refine w.pos (Bw (by omega) (w.l fun v hr=>?_))
  rw[hr.len,Dh,ilt]
  refine Br (fun e=>?_) (fun e=>?_)
  · have e:a+i<L.length:=of_decide_eq_true e
    have e':a+i<(bts L).length:=by rw[Cl];exact e
    obtain⟨m,rfl⟩:∃m,n=m+1:=⟨n-1,by omega⟩
    have next:∀j,i≤j→a+j+1≤L.length+1→k (.int .i64 (Int.ofNat (Np c (bts L) a (j+1)))) h→(Zy W1 k (m+1)).a2 (.ptr pW 0) (Int.ofNat c.toNat) (Int.ofNat j) h:=fun j hij hj hk'=>by
     refine A72 ?_
     unfold Aea
     exact Bw (by omega) (Axk w hc hl ha m (j+1) (by omega) (by omega) hk')
    have bx:bt (bts L) (a+i)=(bts L)[a+i]:=Jk e'
    refine Ar6 w (by omega) ?_
    rw[bx]
    unfold ub
    rw[Bj,show Bx (Int.ofNat (bts L)[a+i].toNat) (Int.ofNat 10)=decide ((bts L)[a+i]=10) from Tp _ 10 (by decide)]
    refine Br (fun e10=>?_) (fun e10=>?_)
    · rw[A12 e' (of_decide_eq_true e10)] at hk;exact hk
    have e10:=of_decide_eq_false e10
    rw[show Bx (Int.ofNat (bts L)[a+i].toNat) (Int.ofNat 92)=decide ((bts L)[a+i]=92) from Tp _ 92 (by decide)]
    refine Br (fun e92=>?_) (fun e92=>?_)
    · have e92:=of_decide_eq_true e92
      refine w.pos (Bw (by omega) (Bw (by omega) (w.l fun v2 hr2=>?_)))
      rw[hr2.len,Dh,ilt]
      refine Mc (b:=decide (bt (bts L) (a+(i+1))=10)) (fun k' hk'=>Bw (by omega) (Ar6 w (by omega) ?_)) ?_
      · unfold ub
        rw[Bj,show Bx (Int.ofNat (bt (bts L) (a+(i+1))).toNat) (Int.ofNat 10)=decide (bt (bts L) (a+(i+1))=10) from Tp _ 10 (by decide)]
        exact hk'
      refine Br (fun q=>?_) (fun q=>?_)
      · simp only[Bool.and_eq_true,decide_eq_true_eq] at q
        rw[Adq e' hc e92 fun h1=>by
         have:=q.2
         rw[show a+(i+1)=a+i+1 from rfl,Jk h1] at this;exact this] at hk
        exact hk
      · refine Bw (by omega) ?_
        rcases Nat.lt_or_ge (a+i+1) L.length with h1|h1
        · have h1':a+i+1<(bts L).length:=by rw[Cl];exact h1
          have h2:(bts L)[a+i+1]≠10:=fun e3=>by
           rw[decide_eq_true (show a+i+1<L.length from h1),Bool.true_and] at q
           have:=of_decide_eq_false q
           rw[show a+(i+1)=a+i+1 from rfl,Jk h1'] at this
           exact this e3
          rw[Aw2 h1' e92 h2] at hk
          exact next (i+1) (by omega) (by omega) hk
        · rw[Adq e' hc e92 fun h2=>by rw[Cl] at h2;omega] at hk
          refine next (i+1) (by omega) (by omega) ?_
          rw[Aje (by rw[Cl];omega)];exact hk
    have e92:=of_decide_eq_false e92
    rw[show Bx (Int.ofNat (bts L)[a+i].toNat) (Int.ofNat c.toNat)=decide ((bts L)[a+i]=c) from A8k _ c]
    refine Br (fun eq=>?_) (fun eq=>?_)
    · rw[Bar e' (of_decide_eq_true eq) e10 e92] at hk
      exact Bw (by omega) hk
    · rw[A14 e' (of_decide_eq_false eq) e10 e92] at hk
      exact next i (Nat.le_refl _) (by omega) hk
  · have e:=of_decide_eq_false e
    rw[Aje (by rw[Cl];omega)] at hk
    exact hk
theorem Bou(w:Wk h pW fl L a vd sp q)(hl:L.length≤1000000){n:Nat}(hn:a+n<L.length)(hc:bt (bts L) (a+n)≠92){k:KV}(hk:k (.int .i64 (Int.ofNat (Np (bt (bts L) (a+n)) (bts L) a (n+1)))) h):W1 (.func 209) [.ptr pW 0,.int .i64 (Int.ofNat n)] h k:=by
 refine Bb1 (n:=2*L.length+5) Bg (Bnc ?_)
 unfold Aec
 refine Ar6 w (by omega) ?_
 unfold ub
 rw[Bj]
 exact Bw (by omega) (Axk w hc hl (by omega) _ (n+1) (by omega) (by omega) hk)
def Km:List (List UInt8):=[[],[76],[117],[85],[117,56]]
def Z5s:Tm:=Aj [.str 0 0,.str 0 0,.str 0 0,.str 0 0,.str 0 0] 0 .e
theorem Bmx(h:H):Ap env 32 (fun e ei=>Ak 5 [(0,(.str 0 0)),(1,(.str 1 76)),(2,(.str 1 117)),(3,(.str 1 85)),(4,(.str 2 14453))] h e ei)=some (.slice h.next 0 5 1 true,h.new (.row (Aj (Km.map S) 0 Z5s) 5 0 9 true)):=by kernel_rfl
theorem Atr{h:H}{e:TypeId}{ss:List (List UInt8)}{t0:Tm}{n:Nat}(hn:ss.length=n):Rd 1 (h.new (.row (Aj (ss.map S) 0 t0) n 0 e true)) (.slice h.next 0 n 1 true) (scs ss):=by
 subst hn
 refine .row h.next 0 (Aj (ss.map S) 0 t0) ss.length 0 e true true (by rw[Fc]) (by rw[Bf];omega) (Bc _ _) (by rw[Fc];omega) fun i hi=>?_
 have hi':i<ss.length:=by rw[Fc] at hi;exact hi
 rw[Of hi']
 refine⟨rfl,fun j hj=>?_⟩
 have:j=0:=by have hj:j<1:=hj;omega
 subst this
 rw[Ah,if_pos ⟨Nat.zero_le _,by rw[List.length_map];omega⟩]
 simp[hi']
def Un(B:List UInt8)(a:Nat)(s:List UInt8):Bool:=s.isPrefixOf (B.drop a)&&(decide (bt B (a+s.length)=34)||(decide (bt B (a+s.length)=39)&&!decide (s=[117,56])))
def Bd3(o:Option (List UInt8)):Int:=match o with
 |some s=>Int.ofNat s.length
 |none=>Int.negSucc 0
theorem Axl(w:Wk h pW fl L a vd sp q)(hl:L.length≤1000000)(ha:a≤L.length){v:AV}(hv:Rd 1 h v (scs Km)){k:KV}:∀(n i:Nat),5-i<n→i≤5→k (.int .i64 (Bd3 ((Km.drop i).find? (Un (bts L) a)))) h→(Aht W1 k n).a1 (.ptr pW 0) v (Int.ofNat 5) (Int.ofNat i) h
 |0,_,hh,_,_=>absurd hh (Nat.not_lt_zero _)
 |n+1,i,hh,hi,hk=>by
  refine A74 ?_
  unfold Aed
  rw[show Ca (Int.ofNat i) (Int.ofNat 5)=decide (i<5) from ilt _ _]
  refine Br (fun e=>?_) (fun e=>?_)
  · have e5:i<5:=of_decide_eq_true e
    have e:i<Km.length:=e5
    have e':i<(scs Km).length:=by rw[Fc];exact e
    have hs:(Km[i]'e).length≤2:=by
     have:∀s∈Km,s.length≤2:=by decide
     exact this _ (List.getElem_mem e)
    refine Dg (hv.elem e' fun q o _ _ hq=>?_)
    rw[Of e] at hq
    refine hq.ld1 (j:=0) (by show 0<1;decide) ?_
    show asS (S (Km[i]'e)) _
    rw[Eg]
    refine Ar6 w (by omega) ?_
    unfold ub
    rw[Bj]
    refine Axq w (by omega) (by omega) (by omega) ?_
    rw[Bn]
    refine Mc (b:=decide (bt (bts L) (a+(Km[i]'e).length)=34)||(decide (bt (bts L) (a+(Km[i]'e).length)=39)&&!decide ((Km[i]'e)=[117,56]))) (fun k' hk'=>?_) ?_
    · rw[show Bx (Int.ofNat (bt (bts L) (a+(Km[i]'e).length)).toNat) (Int.ofNat 34)=decide (bt (bts L) (a+(Km[i]'e).length)=34) from Tp _ 34 (by decide)]
      refine Aae (b:=decide (bt (bts L) (a+(Km[i]'e).length)=39)&&!decide ((Km[i]'e)=[117,56])) (fun k'' hk''=>?_) hk'
      rw[show Bx (Int.ofNat (bt (bts L) (a+(Km[i]'e).length)).toNat) (Int.ofNat 39)=decide (bt (bts L) (a+(Km[i]'e).length)=39) from Tp _ 39 (by decide)]
      refine Mc (b:=!decide ((Km[i]'e)=[117,56])) (fun k3 hk3=>?_) hk''
      rw[Ue (t:=[117,56]) (l:=2) (c:=14453) rfl rfl,Gv];exact hk3
    rw[List.drop_eq_getElem_cons e,List.find?_cons] at hk
    show cnd (Un (bts L) a (Km[i]'e)) _ _
    refine Br (fun p=>?_) (fun p=>?_)
    · rw[p] at hk;exact hk
    · rw[p] at hk
      exact Bw (by omega) (Axl w hl ha hv n (i+1) (by omega) e hk)
  · have e:i=5:=by have:=of_decide_eq_false e;omega
    subst e
    exact hk
theorem A0b(B:List UInt8)(a:Nat):Bd3 (Km.find? (Un B a))=match Nh (B.drop a) with
 |some k=>Int.ofNat k
 |none=>Int.negSucc 0:=by
 have b0:at0 (B.drop a) 0=bt B a:=Jg
 have b1:at0 (B.drop a) 1=bt B (a+1):=Jg
 have b2:at0 (B.drop a) 2=bt B (a+2):=Jg
 have p1:∀x:UInt8,x≠0→List.isPrefixOf [x] (B.drop a)=decide (bt B a=x):=fun x hx=>by
  rcases Nat.lt_or_ge a B.length with h|h
  · rw[drop_cons h,Ii,Jk h,show List.isPrefixOf [] (B.drop (a+1))=true by cases B.drop (a+1)<;>rfl,Bool.and_true]
    exact decide_eq_decide.2 eq_comm
  · rw[List.drop_eq_nil_of_le h,Qb h,decide_eq_false (fun e=>hx e.symm)];rfl
 have p2:List.isPrefixOf [117,56] (B.drop a)=(decide (bt B a=117)&&decide (bt B (a+1)=56)):=by
  rcases Nat.lt_or_ge a B.length with h|h
  · rw[drop_cons h,Ii,Jk h]
    rcases Nat.lt_or_ge (a+1) B.length with h1|h1
    · rw[drop_cons h1,Ii,Jk h1,show List.isPrefixOf [] (B.drop (a+1+1))=true by cases B.drop (a+1+1)<;>rfl,Bool.and_true]
      congr 1<;>exact decide_eq_decide.2 eq_comm
    · rw[List.drop_eq_nil_of_le h1,Qb h1]
      show(_&&false)=(_&&false)
      rw[Bool.and_false,Bool.and_false]
  · rw[List.drop_eq_nil_of_le h,Qb h];rfl
 have o0:Un B a []=decide (bt B a=34∨bt B a=39):=by
  unfold Un
  rw[show List.isPrefixOf [] (B.drop a)=true by cases B.drop a<;>rfl,Bool.true_and,show a+([]:List UInt8).length=a from rfl,show(!decide (([]:List UInt8)=[117,56]))=true by decide,Bool.and_true]
  simp
 have o1:∀x:UInt8,x≠0→Un B a [x]=decide (bt B a=x∧(bt B (a+1)=34∨bt B (a+1)=39)):=fun x hx=>by
  unfold Un
  rw[p1 x hx,show a+[x].length=a+1 from rfl,show(!decide ([x]=[117,56]))=true by simp,Bool.and_true]
  simp
 have o2:Un B a [117,56]=decide (bt B a=117∧bt B (a+1)=56∧bt B (a+2)=34):=by
  unfold Un
  rw[p2,show a+[(117:UInt8),56].length=a+2 from rfl,show(!decide (([117,56]:List UInt8)=[117,56]))=false by decide,Bool.and_false,Bool.or_false]
  simp[Bool.and_assoc]
 unfold Nh
 rw[b0,b1,b2]
 unfold Km
 rw[List.find?_cons,o0]
 by_cases c0:bt B a=34∨bt B a=39
 · rw[decide_eq_true c0,if_pos c0];rfl
 rw[decide_eq_false c0,if_neg c0]
 simp only[]
 rw[List.find?_cons,o1 76 (by decide)]
 by_cases c3:(bt B a=76∨bt B a=117∨bt B a=85)∧(bt B (a+1)=34∨bt B (a+1)=39)
 · have n2:¬(bt B a=117∧bt B (a+1)=56∧bt B (a+2)=34):=fun e=>by
    rcases c3.2 with h|h
    · rw[h] at e;exact absurd e.2.1 (by decide)
    · rw[h] at e;exact absurd e.2.1 (by decide)
   rw[if_neg n2,if_pos c3]
   by_cases d1:bt B a=76
   · rw[decide_eq_true ⟨d1,c3.2⟩];rfl
   rw[decide_eq_false fun e=>d1 e.1]
   simp only[]
   rw[List.find?_cons,o1 117 (by decide)]
   by_cases d2:bt B a=117
   · rw[decide_eq_true ⟨d2,c3.2⟩];rfl
   rw[decide_eq_false fun e=>d2 e.1]
   simp only[]
   have d3:bt B a=85:=by
    rcases c3.1 with h|h|h
    · exact absurd h d1
    · exact absurd h d2
    · exact h
   rw[List.find?_cons,o1 85 (by decide),decide_eq_true ⟨d3,c3.2⟩];rfl
 · rw[if_neg c3,decide_eq_false fun e=>c3 ⟨.inl e.1,e.2⟩]
   simp only[]
   rw[List.find?_cons,o1 117 (by decide),decide_eq_false fun e=>c3 ⟨.inr (.inl e.1),e.2⟩]
   simp only[]
   rw[List.find?_cons,o1 85 (by decide),decide_eq_false fun e=>c3 ⟨.inr (.inr e.1),e.2⟩]
   simp only[]
   rw[List.find?_cons,o2]
   by_cases d2:bt B a=117∧bt B (a+1)=56∧bt B (a+2)=34
   · rw[decide_eq_true d2,if_pos d2];rfl
   · rw[decide_eq_false d2,if_neg d2];rfl
theorem Bov(w:Wk h pW fl L a vd sp q)(hl:L.length≤1000000)(ha:a≤L.length){k:KV}(hk:∀h',Exh h h'→k (.int .i64 (match Nh ((bts L).drop a) with
 |some k=>Int.ofNat k
 |none=>Int.negSucc 0)) h'):W1 (.func 208) [.ptr pW 0] h k:=by
 refine Bb2 (n:=7) Bg (Bnd ?_)
 unfold Aee
 rw[Bmx,Ad]
 have x1:Exh h (h.new (.row (Aj (Km.map S) 0 Z5s) 5 0 9 true)):=.new
 have r1:Rd 1 (h.new (.row (Aj (Km.map S) 0 Z5s) 5 0 9 true)) (.slice h.next 0 5 1 true) (scs Km):=Atr rfl
 generalize h.new (.row (Aj (Km.map S) 0 Z5s) 5 0 9 true)=h1 at x1 r1 ⊢
 rw[r1.len,Fc]
 refine Axl (w.ext x1) hl ha r1 6 0 (by decide) (by decide) ?_
 rw[List.drop_zero,A0b]
 exact hk h1 x1
end
end Go.Den
