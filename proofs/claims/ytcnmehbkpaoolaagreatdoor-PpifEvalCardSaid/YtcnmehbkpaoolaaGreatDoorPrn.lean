/-
 Proof.
-/
import Derived.KernelRfl
namespace Go.Pre
abbrev R(V T:Type):=Option (V×List T)
section
variable{V T:Type}(lvl:T→Nat)(need:T→V→Bool)(two:T→V→V→Bool→Option V)(U:Bool→List T→R V T)
def stops(least:Nat):List T→Bool
 |[]=>true
 |t::_=>decide (lvl t=0)||decide (lvl t<least)
mutual
def evB:Nat→Nat→Bool→List T→R V T
 |0,_,_,_=>none
 |n+1,least,d,ts=>(U d ts).bind fun p=>Cu n least d p.1 p.2
def Cu:Nat→Nat→Bool→V→List T→R V T
 |0,_,_,a,ts=>some (a,ts)
 |_+1,_,_,a,[]=>some (a,[])
 |n+1,least,d,a,t::r=>if stops lvl least (t::r) then some (a,t::r) else(evB n (lvl t+1) (d&&need t a) r).bind fun p=>(two t a p.1 d).bind fun a'=>Cu n least d a' p.2
end
section
variable{lvl:T→Nat}{need:T→V→Bool}{two:T→V→V→Bool→Option V}{U:Bool→List T→R V T}{n least:Nat}{d:Bool}{a:V}
theorem Ig{ts:List T}(h:stops lvl least ts=true):Cu lvl need two U n least d a ts=some (a,ts):=by
 cases n with
 |zero=>rw[Cu]
 |succ n=>
  cases ts with
  |nil=>rw[Cu]
  |cons t r=>rw[Cu,if_pos h]
theorem Asf{t:T}{r:List T}(h:¬stops lvl least (t::r)=true):Cu lvl need two U (n+1) least d a (t::r)=(evB lvl need two U n (lvl t+1) (d&&need t a) r).bind fun p=>(two t a p.1 d).bind fun a'=>Cu lvl need two U n least d a' p.2:=by
 rw[Cu,if_neg h]
theorem A5y{ts:List T}:evB lvl need two U (n+1) least d ts=(U d ts).bind fun p=>Cu lvl need two U n least d p.1 p.2:=by
 rw[evB]
end
end
abbrev Tok:=Nat×List UInt8
section
variable{V:Type}(prim:Tok→Option V)(neg inv isz:V→V)(zero:V→Bool)(pick:V→V→V→V)
variable(lvl:Tok→Nat)(need:Tok→V→Bool)(two:Tok→V→V→Bool→Option V)
def P(s:List UInt8):Tok:=(5,s)
def Sj{V:Type}(l:List Tok)(s:List UInt8)(k:List Tok→R V Tok)(e:R V Tok):R V Tok:=match l with
 |[]=>e
 |t::r=>if t=P s then k r else e
def Ahf{V:Type}(o:R V Tok):R V Tok:=o.bind fun p=>Sj p.2 [41] (fun r=>some (p.1,r)) none
def unary(C:Bool→List Tok→R V Tok):Bool→List Tok→R V Tok
 |_,[]=>none
 |d,t::r=>if t=P [43] then unary C d r
  else if t=P [45] then(unary C d r).map fun p=>(neg p.1,p.2)
  else if t=P [126] then(unary C d r).map fun p=>(inv p.1,p.2)
  else if t=P [33] then(unary C d r).map fun p=>(isz p.1,p.2)
  else if t=P [40] then Ahf (C d r)
  else(prim t).map fun v=>(v,r)
def Li(B C:Bool→List Tok→R V Tok)(d:Bool)(ts:List Tok):R V Tok:=(B d ts).bind fun p=>Sj p.2 [63] (fun r=>(C (d&&!zero p.1) r).bind fun q=>Sj q.2 [58] (fun r2=>(C (d&&zero p.1) r2).map fun s=>(pick p.1 q.1 s.1,s.2)) none) (some p)
def Jc:Nat→Bool→List Tok→R V Tok
 |0=>fun _ _=>none
 |n+1=>Li zero pick (fun d ts=>evB lvl need two (unary prim neg inv isz (Jc n)) (2*ts.length+1) 1 d ts) (Jc n)
end
section
variable{V:Type}{prim:Tok→Option V}{neg inv isz:V→V}{C:Bool→List Tok→R V Tok}{d:Bool}{t:Tok}{r:List Tok}
theorem Awd:unary prim neg inv isz C d (P [43]::r)=unary prim neg inv isz C d r:=by rw[unary,if_pos rfl]
theorem A0i:unary prim neg inv isz C d (P [45]::r)=(unary prim neg inv isz C d r).map fun p=>(neg p.1,p.2):=by rw[unary,if_neg (by decide),if_pos rfl]
theorem A0j:unary prim neg inv isz C d (P [126]::r)=(unary prim neg inv isz C d r).map fun p=>(inv p.1,p.2):=by rw[unary,if_neg (by decide),if_neg (by decide),if_pos rfl]
theorem A0h:unary prim neg inv isz C d (P [33]::r)=(unary prim neg inv isz C d r).map fun p=>(isz p.1,p.2):=by rw[unary,if_neg (by decide),if_neg (by decide),if_neg (by decide),if_pos rfl]
theorem A0g:unary prim neg inv isz C d (P [40]::r)=Ahf (C d r):=by rw[unary,if_neg (by decide),if_neg (by decide),if_neg (by decide),if_neg (by decide),if_pos rfl]
theorem Awc(h1:t≠P [43])(h2:t≠P [45])(h3:t≠P [126])(h4:t≠P [33])(h5:t≠P [40]):unary prim neg inv isz C d (t::r)=(prim t).map fun v=>(v,r):=by rw[unary,if_neg h1,if_neg h2,if_neg h3,if_neg h4,if_neg h5]
theorem Ua{v:V}{l:List Tok}:Ahf (some (v,l))=Sj l [41] (fun r=>some (v,r)) none:=rfl
theorem Vr{s:List UInt8}{k:List Tok→R V Tok}{e:R V Tok}(h:t=P s):Sj (t::r) s k e=k r:=if_pos h
theorem Re{s:List UInt8}{k:List Tok→R V Tok}{e:R V Tok}(h:t≠P s):Sj (t::r) s k e=e:=if_neg h
end
abbrev V:=BitVec 64×Bool
def Kq(b:Bool):V:=(if b then 1#64 else 0#64,false)
def vz(v:V):Bool:=decide (v.1=0#64)
def Fh(c a b:V):V:=(if vz c then b.1 else a.1,a.2||b.2)
def Mf(v:V):V:=(-v.1,v.2)
def Mg(v:V):V:=(~~~v.1,v.2)
def Pd(v:V):V:=Kq (vz v)
def Dt:List (List (List UInt8)):=[[[124,124]],[[38,38]],[[124]],[[94]],[[38]],[[61,61],[33,61]],[[60],[62],[60,61],[62,61]],[[60,60],[62,62]],[[43],[45]],[[42],[47],[37]]]
def Ph:List (List (List UInt8))→Nat→List UInt8→Nat
 |[],_,_=>0
 |r::rs,i,s=>if s∈r then i+1 else Ph rs (i+1) s
def Wy(s:List UInt8):Nat:=Ph Dt 0 s
def lvl(t:Tok):Nat:=if t.1=5 then Wy t.2 else 0
def need(t:Tok)(a:V):Bool:=if t.2=[124,124] then vz a else if t.2=[38,38] then !vz a else true
def Se(s:List UInt8)(a b:BitVec 64)(un:Bool):BitVec 64:=if un then(if s=[47] then a / b else a%b) else(if s=[47] then a.sdiv b else a.srem b)
def shB(s:List UInt8)(a:V)(n:Nat):V:=(if s=[60,60] then a.1 <<< n else if a.2 then a.1 >>> n else a.1.sshiftRight n,a.2)
def Py(a b:BitVec 64)(un:Bool):Bool:=if un then decide (a.toNat<b.toNat) else decide (a.toInt<b.toInt)
def Vy(s:List UInt8)(a b:BitVec 64)(un:Bool):Bool:=
 if s=[61,61] then decide (a=b) else if s=[33,61] then !decide (a=b) else if s=[60] then Py a b un else if s=[62,61] then !Py a b un else if s=[62] then !Py a b un&&!decide (a=b) else Py a b un||decide (a=b)
def Hr(s:List UInt8)(a b:V)(d:Bool):Option V:=
 if s=[124] then some (a.1|||b.1,a.2||b.2)
 else if s=[94] then some (a.1^^^b.1,a.2||b.2)
 else if s=[38] then some (a.1&&&b.1,a.2||b.2)
 else if s=[43] then some (a.1+b.1,a.2||b.2)
 else if s=[45] then some (a.1-b.1,a.2||b.2)
 else if s=[42] then some (a.1*b.1,a.2||b.2)
 else if s=[47]∨s=[37] then(if b.1=0#64 then(if d then none else some (0#64,a.2||b.2)) else some (Se s a.1 b.1 (a.2||b.2),a.2||b.2))
 else if s=[60,60]∨s=[62,62] then some (shB s a (b.1&&&63#64).toNat)
 else some (Kq (Vy s a.1 b.1 (a.2||b.2)))
def two(t:Tok)(a b:V)(d:Bool):Option V:=if t.2=[124,124] then some (Kq (!vz a||!vz b)) else if t.2=[38,38] then some (Kq (!vz a&&!vz b)) else Hr t.2 a b d
end Go.Pre
namespace Go.Prc
variable{V T:Type}
abbrev R(V T:Type):=Option (V×List T)
section
variable(lvl:T→Nat)(need:T→V→Bool)(two:T→V→V→Bool→Option V)(U:Bool→List T→R V T)
def stops(least:Nat):List T→Bool
 |[]=>true
 |t::_=>decide (lvl t=0)||decide (lvl t<least)
mutual
def evB:Nat→Nat→Bool→List T→R V T
 |0,_,_,_=>none
 |n+1,least,d,ts=>match U d ts with
  |none=>none
  |some (a,r)=>Cu n least d a r
def Cu:Nat→Nat→Bool→V→List T→R V T
 |0,_,_,a,ts=>some (a,ts)
 |n+1,least,d,a,ts=>match ts with
  |[]=>some (a,[])
  |t::r=>if stops lvl least (t::r) then some (a,t::r) else match evB n (lvl t+1) (d&&need t a) r with
   |none=>none
   |some (b,r')=>match two t a b d with
    |none=>none
    |some a'=>Cu n least d a' r'
end
def Ec(B:Bool→List T→R V T)(lev:Nat):Nat→Bool→V→List T→R V T
 |0,_,a,ts=>some (a,ts)
 |n+1,d,a,ts=>match ts with
  |[]=>some (a,[])
  |t::r=>if lvl t=lev then match B (d&&need t a) r with
   |none=>none
   |some (b,r')=>match two t a b d with
    |none=>none
    |some a'=>Ec B lev n d a' r'
   else some (a,t::r)
def Iy:Nat→Bool→List T→R V T
 |0,d,ts=>U d ts
 |e+1,d,ts=>match Iy e d ts with
  |none=>none
  |some (a,r)=>Ec lvl need two (Iy e) (10-e) r.length d a r
end
def Qr(U:Bool→List T→R V T):Prop:=∀d ts v r,U d ts=some (v,r)→r.length<ts.length
section
variable{lvl:T→Nat}{need:T→V→Bool}{two:T→V→V→Bool→Option V}{U:Bool→List T→R V T}
theorem Qy(hU:Qr U):∀n:Nat,(∀least d ts v r,evB lvl need two U n least d ts=some (v,r)→r.length<ts.length)∧(∀least d a ts v r,Cu lvl need two U n least d a ts=some (v,r)→r.length≤ts.length):=by
 intro n
 induction n with
 |zero=>
  refine⟨fun least d ts v r h=>by simp[evB] at h,fun least d a ts v r h=>?_⟩
  simp only[Cu,Option.some.injEq,Prod.mk.injEq] at h
  rw[h.2];exact Nat.le_refl _
 |succ n ih=>
  refine⟨fun least d ts v r h=>?_,fun least d a ts v r h=>?_⟩
  · unfold evB at h
    split at h
    · cases h
    · rename_i a r1 hu
      exact Nat.lt_of_le_of_lt (ih.2 _ _ _ _ _ _ h) (hU _ _ _ _ hu)
  · unfold Cu at h
    split at h
    · cases h;exact Nat.le_refl _
    · rename_i t r1
      split at h
      · cases h;exact Nat.le_refl _
      · split at h
        · cases h
        · rename_i b r' hb
          split at h
          · cases h
          · rename_i a' _
            have h1:=ih.1 _ _ _ _ _ hb
            have h2:=ih.2 _ _ _ _ _ _ h
            simp only[List.length_cons];omega
theorem A5o(hU:Qr U):∀(n m:Nat),(∀least d ts,2*ts.length+1≤n→2*ts.length+1≤m→evB lvl need two U n least d ts=evB lvl need two U m least d ts)∧(∀least d a ts,2*ts.length≤n→2*ts.length≤m→Cu lvl need two U n least d a ts=Cu lvl need two U m least d a ts):=by
 intro n
 induction n with
 |zero=>
  intro m
  refine⟨fun least d ts h=>by omega,fun least d a ts h hm=>?_⟩
  have:ts=[]:=List.length_eq_zero_iff.1 (by omega)
  subst this
  cases m<;>simp[Cu]
 |succ n ih=>
  intro m
  refine⟨fun least d ts h hm=>?_,fun least d a ts h hm=>?_⟩
  · obtain⟨m,rfl⟩:∃m',m=m'+1:=⟨m-1,by omega⟩
    unfold evB
    split
    · rfl
    · rename_i a r hu
      have:=hU _ _ _ _ hu
      exact(ih m).2 _ _ _ _ (by omega) (by omega)
  · cases ts with
    |nil=>cases m<;>simp[Cu]
    |cons t r=>
     simp only[List.length_cons] at h hm
     obtain⟨m,rfl⟩:∃m',m=m'+1:=⟨m-1,by omega⟩
     unfold Cu
     simp only[]
     split
     · rfl
     · rw[(ih m).1 (lvl t+1) (d&&need t a) r (by omega) (by omega)]
       split
       · rfl
       · rename_i b r' hb
         split
         · rfl
         · have:=(Qy (lvl:=lvl) (need:=need) (two:=two) hU _).1 _ _ _ _ _ hb
           exact(ih m).2 _ _ _ _ (by omega) (by omega)
theorem A2c(hU:Qr U):∀n:Nat,(∀least d ts v r,2*ts.length+1≤n→evB lvl need two U n least d ts=some (v,r)→stops lvl least r=true)∧(∀least d a ts v r,2*ts.length≤n→Cu lvl need two U n least d a ts=some (v,r)→stops lvl least r=true):=by
 intro n
 induction n with
 |zero=>
  refine⟨fun least d ts v r h=>by omega,fun least d a ts v r h he=>?_⟩
  have:ts=[]:=List.length_eq_zero_iff.1 (by omega)
  subst this
  simp only[Cu,Option.some.injEq,Prod.mk.injEq] at he
  rw[←he.2];rfl
 |succ n ih=>
  refine⟨fun least d ts v r h he=>?_,fun least d a ts v r h he=>?_⟩
  · unfold evB at he
    split at he
    · cases he
    · rename_i a r1 hu
      have:=hU _ _ _ _ hu
      exact ih.2 _ _ _ _ _ _ (by omega) he
  · unfold Cu at he
    split at he
    · cases he;rfl
    · rename_i t r1
      simp only[List.length_cons] at h
      split at he
      · rename_i hs;cases he;exact hs
      · split at he
        · cases he
        · rename_i b r' hb
          split at he
          · cases he
          · have:=(Qy (lvl:=lvl) (need:=need) (two:=two) hU _).1 _ _ _ _ _ hb
            exact ih.2 _ _ _ _ _ _ (by omega) he
theorem Ig{n least:Nat}{d:Bool}{a:V}{ts:List T}(h:stops lvl least ts=true):Cu lvl need two U n least d a ts=some (a,ts):=by
 cases n with
 |zero=>simp[Cu]
 |succ n=>
  unfold Cu
  cases ts with
  |nil=>rfl
  |cons t r=>simp only[];rw[if_pos h]
theorem Wj{B B':Bool→List T→R V T}{L lev:Nat}(hB:∀d ts,ts.length≤L→B d ts=B' d ts)(hS:∀d ts v r,B d ts=some (v,r)→r.length≤ts.length):
 ∀(n m:Nat)(d:Bool)(a:V)(ts:List T),ts.length≤n→ts.length≤m→ts.length≤L→Ec lvl need two B lev n d a ts=Ec lvl need two B' lev m d a ts:=by
 intro n
 induction n with
 |zero=>
  intro m d a ts h hm hL
  have:ts=[]:=List.length_eq_zero_iff.1 (by omega)
  subst this
  cases m<;>simp[Ec]
 |succ n ih=>
  intro m d a ts h hm hL
  cases ts with
  |nil=>cases m<;>simp[Ec]
  |cons t r=>
   simp only[List.length_cons] at h hm hL
   obtain⟨m,rfl⟩:∃m',m=m'+1:=⟨m-1,by omega⟩
   unfold Ec
   simp only[]
   split
   · rw[←hB (d&&need t a) r (by omega)]
     split
     · rfl
     · rename_i b r' hb
       have:=hS _ _ _ _ hb
       split
       · rfl
       · exact ih m d _ r' (by omega) (by omega) (by omega)
   · rfl
theorem Ajx(hU:Qr U){least:Nat}(hl:1≤least):∀(N:Nat)(d:Bool)(a:V)(ts:List T)(M:Nat),2*ts.length≤N→2*ts.length≤M→
 Cu lvl need two U N least d a ts=match Cu lvl need two U N (least+1) d a ts with
  |none=>none
  |some (a',r)=>Ec lvl need two (fun d ts=>evB lvl need two U (M+1) (least+1) d ts) least r.length d a' r:=by
 intro N
 induction N with
 |zero=>
  intro d a ts M hN _
  have:ts=[]:=List.length_eq_zero_iff.1 (by omega)
  subst this
  simp[Cu,Ec]
 |succ N ih=>
  intro d a ts M hN hM
  cases ts with
  |nil=>simp[Cu,Ec]
  |cons t r=>
   simp only[List.length_cons] at hN hM
   have hsh:=(Qy (lvl:=lvl) (need:=need) (two:=two) hU)
   by_cases hs:stops lvl least (t::r)=true
   · have hs':stops lvl (least+1) (t::r)=true:=by
      simp only[stops,Bool.or_eq_true,decide_eq_true_eq] at hs ⊢;omega
     rw[Ig hs,Ig hs']
     show _=Ec lvl need two _ least (r.length+1) d a (t::r)
     unfold Ec
     simp only[]
     simp only[stops,Bool.or_eq_true,decide_eq_true_eq] at hs
     rw[if_neg (by omega)]
   · by_cases he:lvl t=least
     · have hs':stops lvl (least+1) (t::r)=true:=by
        simp only[stops,Bool.or_eq_true,decide_eq_true_eq];omega
       rw[Ig (n:=N+1) hs']
       show _=Ec lvl need two _ least (r.length+1) d a (t::r)
       unfold Cu Ec
       simp only[]
       rw[if_neg hs,if_pos he,he]
       rw[show evB lvl need two U N (least+1) (d&&need t a) r=evB lvl need two U (M+1) (least+1) (d&&need t a) r from(A5o hU N (M+1)).1 _ _ _ (by omega) (by omega)]
       split
       · rfl
       · rename_i b r' hb
         split
         · rfl
         · rename_i a' _
           have h1:=(hsh _).1 _ _ _ _ _ hb
           rw[ih d a' r' M (by omega) (by omega),Ig ((A2c hU _).1 _ _ _ _ _ (by omega) hb)]
           exact Wj (L:=r.length) (fun _ _ _=>rfl) (fun d ts v r h=>Nat.le_of_lt ((hsh _).1 _ _ _ _ _ h)) _ _ _ _ _ (by omega) (by omega) (by omega)
     · have hs':¬stops lvl (least+1) (t::r)=true:=by
        simp only[stops,Bool.or_eq_true,decide_eq_true_eq] at hs ⊢;omega
       conv=>lhs;unfold Cu
       conv=>rhs;unfold Cu
       simp only[]
       rw[if_neg hs,if_neg hs']
       cases hb:evB lvl need two U N (lvl t+1) (d&&need t a) r with
       |none=>rfl
       |some p=>
        obtain⟨b,r'⟩:=p
        simp only[]
        cases two t a b d with
        |none=>rfl
        |some a'=>
         have h1:=(hsh _).1 _ _ _ _ _ hb
         simp only[]
         exact ih d a' r' M (by omega) (by omega)
theorem Axc(hU:Qr U)(hl:∀t,lvl t≤10):∀(e:Nat),e≤10→∀(d:Bool)(ts:List T)(N:Nat),2*ts.length+1≤N→Iy lvl need two U e d ts=evB lvl need two U N (11-e) d ts:=by
 intro e
 induction e with
 |zero=>
  intro _ d ts N hN
  obtain⟨N,rfl⟩:∃m',N=m'+1:=⟨N-1,by omega⟩
  unfold Iy evB
  split
  · rename_i h;exact h
  · rename_i a r h
    rw[Ig,h]
    cases r with
    |nil=>rfl
    |cons t r=>simp only[stops,Bool.or_eq_true,decide_eq_true_eq];have:=hl t;omega
 |succ e ih=>
  intro he d ts N hN
  obtain⟨N,rfl⟩:∃m',N=m'+1:=⟨N-1,by omega⟩
  have ih:=ih (by omega)
  unfold Iy
  rw[ih d ts (N+1) hN]
  conv=>lhs;unfold evB
  conv=>rhs;unfold evB
  cases hu:U d ts with
  |none=>rfl
  |some p=>
   obtain⟨a,r⟩:=p
   have hr:=hU _ _ _ _ hu
   simp only[]
   have e1:11-(e+1)=10-e:=by omega
   have e2:11-e=10-e+1:=by omega
   rw[e1,e2,Ajx hU (least:=10-e) (by omega) N d a r N (by omega) (by omega)]
   cases hL:Cu lvl need two U N (10-e+1) d a r with
   |none=>rfl
   |some p=>
    obtain⟨a',r'⟩:=p
    have h2:=(Qy (lvl:=lvl) (need:=need) (two:=two) hU N).2 _ _ _ _ _ _ hL
    simp only[]
    refine Wj (L:=r'.length) (fun d ts hts=>?_) (fun d ts v r h=>?_) _ _ _ _ _ (Nat.le_refl _) (Nat.le_refl _) (Nat.le_refl _)
    · rw[ih d ts (N+1) (by omega),e2]
    · rw[ih d ts (2*ts.length+1) (Nat.le_refl _)] at h
      exact Nat.le_of_lt ((Qy hU _).1 _ _ _ _ _ h)
end
end Go.Prc
namespace Go.Prc
abbrev Tok:=Nat×List UInt8
section
variable{V:Type}(prim:Tok→Option V)(neg inv isz:V→V)(zero:V→Bool)(pick:V→V→V→V)
variable(lvl:Tok→Nat)(need:Tok→V→Bool)(two:Tok→V→V→Bool→Option V)
def P(s:List UInt8):Tok:=(5,s)
def unary(C:Bool→List Tok→R V Tok):Bool→List Tok→R V Tok
 |_,[]=>none
 |d,t::r=>if t=P [43] then unary C d r
  else if t=P [45] then(match unary C d r with|none=>none|some (v,r')=>some (neg v,r'))
  else if t=P [126] then(match unary C d r with|none=>none|some (v,r')=>some (inv v,r'))
  else if t=P [33] then(match unary C d r with|none=>none|some (v,r')=>some (isz v,r'))
  else if t=P [40] then(match C d r with|some (v,t2::r2)=>if t2=P [41] then some (v,r2) else none|_=>none)
  else match prim t with|none=>none|some v=>some (v,r)
def Li(B C:Bool→List Tok→R V Tok)(d:Bool)(ts:List Tok):R V Tok:=match B d ts with
 |none=>none
 |some (c,[])=>some (c,[])
 |some (c,t::r)=>if t=P [63] then(match C (d&&!zero c) r with
  |some (a,t2::r2)=>if t2=P [58] then(match C (d&&zero c) r2 with
   |none=>none
   |some (b,r3)=>some (pick c a b,r3)) else none
  |_=>none) else some (c,t::r)
def Jc:Nat→Bool→List Tok→R V Tok
 |0=>fun _ _=>none
 |n+1=>Li zero pick (fun d ts=>evB lvl need two (unary prim neg inv isz (Jc n)) (2*ts.length+1) 1 d ts) (Jc n)
def Mz:Nat→Bool→List Tok→R V Tok
 |0=>fun _ _=>none
 |n+1=>Li zero pick (fun d ts=>Iy lvl need two (unary prim neg inv isz (Mz n)) 10 d ts) (Mz n)
end
section
variable{V:Type}{prim:Tok→Option V}{neg inv isz:V→V}{zero:V→Bool}{pick:V→V→V→V}
variable{lvl:Tok→Nat}{need:Tok→V→Bool}{two:Tok→V→V→Bool→Option V}
theorem Ale{C:Bool→List Tok→R V Tok}(hC:Qr C):Qr (unary prim neg inv isz C):=by
 intro d ts
 induction ts generalizing d with
 |nil=>intro v r h;simp[unary] at h
 |cons t r ih=>
  intro v r' h
  have key:∀(f:V→V) v,(match unary prim neg inv isz C d r with|none=>none|some (v,r')=>some (f v,r'))=some (v,r')→r'.length<(t::r).length:=fun f v h=>by
   cases e:unary prim neg inv isz C d r with
   |none=>rw[e] at h;cases h
   |some p=>
    obtain⟨v1,r1⟩:=p
    rw[e] at h
    have:=ih d v1 r1 e
    cases h
    simp only[List.length_cons];omega
  unfold unary at h
  split at h
  · have:=ih _ _ _ h;simp only[List.length_cons];omega
  · split at h
    · exact key _ _ h
    · split at h
      · exact key _ _ h
      · split at h
        · exact key _ _ h
        · split at h
          · split at h
            · rename_i v1 t2 r2 e
              have:=hC _ _ _ _ e
              split at h
              · cases h;simp only[List.length_cons] at this ⊢;omega
              · cases h
            · cases h
          · split at h
            · cases h
            · cases h;simp
theorem Awp{B C:Bool→List Tok→R V Tok}(hB:Qr B)(hC:Qr C):Qr (Li zero pick B C):=by
 intro d ts v r h
 unfold Li at h
 split at h
 · cases h
 · rename_i c e;cases h;exact hB _ _ _ _ e
 · rename_i c t r1 e
   have h1:=hB _ _ _ _ e
   simp only[List.length_cons] at h1
   split at h
   · split at h
     · rename_i a t2 r2 e2
       have h2:=hC _ _ _ _ e2
       simp only[List.length_cons] at h2
       split at h
       · split at h
         · cases h
         · rename_i b r3 e3
           have h3:=hC _ _ _ _ e3
           cases h;omega
       · cases h
     · cases h
   · cases h;simp only[List.length_cons];omega
theorem Acy:∀n,Qr (Jc prim neg inv isz zero pick lvl need two n)
 |0=>fun _ _ _ _ h=>by simp[Jc] at h
 |n+1=>Awp (fun _ _ _ _ h=>(Qy (Ale (Acy n)) _).1 _ _ _ _ _ h) (Acy n)
theorem Anx(hl:∀t,lvl t≤10):∀n,Jc prim neg inv isz zero pick lvl need two n=Mz prim neg inv isz zero pick lvl need two n
 |0=>rfl
 |n+1=>by
  have ih:=Anx hl n
  have hs:=Ale (prim:=prim) (neg:=neg) (inv:=inv) (isz:=isz) (Acy (prim:=prim) (neg:=neg) (inv:=inv) (isz:=isz) (zero:=zero) (pick:=pick) (lvl:=lvl) (need:=need) (two:=two) n)
  unfold Jc Mz
  rw[←ih]
  congr 1
  funext d ts
  rw[Axc hs hl 10 (Nat.le_refl _) d ts (2*ts.length+1) (Nat.le_refl _)]
end
end Go.Prc
namespace Go.Pre
section
variable{V T:Type}(lvl:T→Nat)(need:T→V→Bool)(two:T→V→V→Bool→Option V)(U:Bool→List T→R V T)
def Ec(B:Bool→List T→R V T)(lev:Nat):Nat→Bool→V→List T→R V T
 |0,_,a,ts=>some (a,ts)
 |_+1,_,a,[]=>some (a,[])
 |n+1,d,a,t::r=>if lvl t=lev then(B (d&&need t a) r).bind fun p=>(two t a p.1 d).bind fun a'=>Ec B lev n d a' p.2 else some (a,t::r)
def Iy:Nat→Bool→List T→R V T
 |0,d,ts=>U d ts
 |e+1,d,ts=>(Iy e d ts).bind fun p=>Ec lvl need two (Iy e) (10-e) p.2.length d p.1 p.2
end
section
variable{V:Type}(prim:Tok→Option V)(neg inv isz:V→V)(zero:V→Bool)(pick:V→V→V→V)
variable(lvl:Tok→Nat)(need:Tok→V→Bool)(two:Tok→V→V→Bool→Option V)
def Mz:Nat→Bool→List Tok→R V Tok
 |0=>fun _ _=>none
 |n+1=>Li zero pick (fun d ts=>Iy lvl need two (unary prim neg inv isz (Mz n)) 10 d ts) (Mz n)
end
section
variable{V T:Type}{lvl:T→Nat}{need:T→V→Bool}{two:T→V→V→Bool→Option V}{U:Bool→List T→R V T}
theorem Ase{B:Bool→List T→R V T}{lev n:Nat}{d:Bool}{a:V}{t:T}{r:List T}(h:lvl t=lev):Ec lvl need two B lev (n+1) d a (t::r)=(B (d&&need t a) r).bind fun p=>(two t a p.1 d).bind fun a'=>Ec lvl need two B lev n d a' p.2:=by
 rw[Ec,if_pos h]
theorem Ajy{B:Bool→List T→R V T}{lev:Nat}{d:Bool}{a:V}:∀{n:Nat}{ts:List T},(∀t r,ts=t::r→lvl t≠lev)→Ec lvl need two B lev n d a ts=some (a,ts)
 |0,ts,_=>by rw[Ec]
 |n+1,[],_=>by rw[Ec]
 |n+1,t::r,h=>by rw[Ec,if_neg (h t r rfl)]
theorem A4q{e:Nat}{d:Bool}{ts:List T}:Iy lvl need two U (e+1) d ts=(Iy lvl need two U e d ts).bind fun p=>Ec lvl need two (Iy lvl need two U e) (10-e) p.2.length d p.1 p.2:=by
 rw[Iy]
theorem Azd:∀n:Nat,(∀least d ts,evB lvl need two U n least d ts=Prc.evB lvl need two U n least d ts)∧(∀least d a ts,Cu lvl need two U n least d a ts=Prc.Cu lvl need two U n least d a ts)
 |0=>⟨fun _ _ _=>by rw[evB,Prc.evB],fun _ _ _ _=>by rw[Cu,Prc.Cu]⟩
 |n+1=>by
  obtain⟨h1,h2⟩:=Azd n
  refine⟨fun least d ts=>?_,fun least d a ts=>?_⟩
  · rw[evB,Prc.evB]
    cases U d ts with
    |none=>rfl
    |some p=>
     obtain⟨a,r⟩:=p
     exact h2 _ _ _ _
  · cases ts with
    |nil=>rw[Cu,Prc.Cu]
    |cons t r=>
     rw[Cu,Prc.Cu]
     by_cases hs:Prc.stops lvl least (t::r)=true
     · rw[if_pos hs,if_pos (show stops lvl least (t::r)=true from hs)]
     · rw[if_neg hs,if_neg (show¬stops lvl least (t::r)=true from hs),h1]
       cases Prc.evB lvl need two U n (lvl t+1) (d&&need t a) r with
       |none=>rfl
       |some p=>
        obtain⟨b,r'⟩:=p
        simp only[Option.bind_some]
        cases two t a b d with
        |none=>rfl
        |some a'=>exact h2 _ _ _ _
theorem Anb{B:Bool→List T→R V T}{lev:Nat}:∀(n:Nat)(d:Bool)(a:V)(ts:List T),Ec lvl need two B lev n d a ts=Prc.Ec lvl need two B lev n d a ts
 |0,d,a,ts=>by rw[Ec,Prc.Ec]
 |n+1,d,a,[]=>by rw[Ec,Prc.Ec]
 |n+1,d,a,t::r=>by
  rw[Ec,Prc.Ec]
  by_cases h:lvl t=lev
  · rw[if_pos h,if_pos h]
    cases B (d&&need t a) r with
    |none=>rfl
    |some p=>
     obtain⟨b,r'⟩:=p
     simp only[Option.bind_some]
     cases two t a b d with
     |none=>rfl
     |some a'=>exact Anb n d a' r'
  · rw[if_neg h,if_neg h]
theorem Ash:∀(e:Nat),Iy lvl need two U e=Prc.Iy lvl need two U e
 |0=>by funext d ts;rw[Iy,Prc.Iy]
 |e+1=>by
  have ih:=Ash e
  funext d ts
  rw[Iy,Prc.Iy,ih]
  cases Prc.Iy lvl need two U e d ts with
  |none=>rfl
  |some p=>
   obtain⟨a,r⟩:=p
   exact Anb _ _ _ _
end
section
variable{V:Type}{prim:Tok→Option V}{neg inv isz:V→V}{zero:V→Bool}{pick:V→V→V→V}
variable{lvl:Tok→Nat}{need:Tok→V→Bool}{two:Tok→V→V→Bool→Option V}
theorem Acv{C:Bool→List Tok→R V Tok}:∀(ts:List Tok)(d:Bool),unary prim neg inv isz C d ts=Prc.unary prim neg inv isz C d ts
 |[],d=>by rw[unary,Prc.unary]
 |t::r,d=>by
  have ih:=Acv (C:=C) r d
  have hm:∀f:V→V,(unary prim neg inv isz C d r).map (fun p=>(f p.1,p.2))=(match Prc.unary prim neg inv isz C d r with|none=>none|some (v,r')=>some (f v,r')):=fun f=>by
   rw[ih]
   cases Prc.unary prim neg inv isz C d r with
   |none=>rfl
   |some p=>rfl
  rw[unary,Prc.unary,hm,hm,hm,ih]
  by_cases e1:t=P [43]
  · rw[if_pos e1,if_pos (show t=Prc.P [43] from e1)]
  rw[if_neg e1,if_neg (show¬t=Prc.P [43] from e1)]
  by_cases e2:t=P [45]
  · rw[if_pos e2,if_pos (show t=Prc.P [45] from e2)]
  rw[if_neg e2,if_neg (show¬t=Prc.P [45] from e2)]
  by_cases e3:t=P [126]
  · rw[if_pos e3,if_pos (show t=Prc.P [126] from e3)]
  rw[if_neg e3,if_neg (show¬t=Prc.P [126] from e3)]
  by_cases e4:t=P [33]
  · rw[if_pos e4,if_pos (show t=Prc.P [33] from e4)]
  rw[if_neg e4,if_neg (show¬t=Prc.P [33] from e4)]
  by_cases e5:t=P [40]
  · rw[if_pos e5,if_pos (show t=Prc.P [40] from e5)]
    unfold Ahf
    cases C d r with
    |none=>rfl
    |some p=>
     obtain⟨v,l⟩:=p
     cases l with
     |nil=>rfl
     |cons t2 r2=>rfl
  rw[if_neg e5,if_neg (show¬t=Prc.P [40] from e5)]
  cases prim t with
  |none=>rfl
  |some v=>rfl
theorem Anz{B C:Bool→List Tok→R V Tok}(d:Bool)(ts:List Tok):Li zero pick B C d ts=Prc.Li zero pick B C d ts:=by
 unfold Li Prc.Li
 cases B d ts with
 |none=>rfl
 |some p=>
  obtain⟨c,l⟩:=p
  cases l with
  |nil=>rfl
  |cons t r=>
   show(if t=P [63] then _ else _)=(if t=Prc.P [63] then _ else _)
   by_cases e:t=P [63]
   · rw[if_pos e,if_pos (show t=Prc.P [63] from e)]
     cases C (d&&!zero c) r with
     |none=>rfl
     |some q=>
      obtain⟨a,l2⟩:=q
      cases l2 with
      |nil=>rfl
      |cons t2 r2=>
       show(if t2=P [58] then _ else _)=(if t2=Prc.P [58] then _ else _)
       by_cases e2:t2=P [58]
       · rw[if_pos e2,if_pos (show t2=Prc.P [58] from e2)]
         show(C (d&&zero c) r2).map _=_
         cases C (d&&zero c) r2 with
         |none=>rfl
         |some s=>rfl
       · rw[if_neg e2,if_neg (show¬t2=Prc.P [58] from e2)]
   · rw[if_neg e,if_neg (show¬t=Prc.P [63] from e)]
theorem An1:∀n:Nat,Jc prim neg inv isz zero pick lvl need two n=Prc.Jc prim neg inv isz zero pick lvl need two n
 |0=>rfl
 |n+1=>by
  have ih:=An1 n
  funext d ts
  rw[Jc,Prc.Jc,Anz,ih]
  congr 1
  funext d ts
  rw[(Azd _).1]
  congr 1
  funext d ts
  exact Acv ts d
theorem An0:∀n:Nat,Mz prim neg inv isz zero pick lvl need two n=Prc.Mz prim neg inv isz zero pick lvl need two n
 |0=>rfl
 |n+1=>by
  have ih:=An0 n
  funext d ts
  rw[Mz,Prc.Mz,Anz,ih]
  congr 1
  funext d ts
  rw[Ash]
  congr 1
  funext d ts
  exact Acv ts d
theorem Apo(hl:∀t,lvl t≤10)(n:Nat):Jc prim neg inv isz zero pick lvl need two n=Mz prim neg inv isz zero pick lvl need two n:=by
 rw[An1,An0,Prc.Anx hl]
end
end Go.Pre
