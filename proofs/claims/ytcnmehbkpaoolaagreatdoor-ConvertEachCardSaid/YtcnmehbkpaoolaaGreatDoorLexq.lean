/-
 Proof.
-/
namespace Go.Lx
abbrev B8:=List UInt8
def Dw(x:UInt8):Bool:=(decide (97≤x.toNat)&&decide (x.toNat≤122))||(decide (65≤x.toNat)&&decide (x.toNat≤90))||decide (x.toNat=95)
def isDigit(x:UInt8):Bool:=decide (48≤x.toNat)&&decide (x.toNat≤57)
def at0(s:B8)(i:Nat):UInt8:=s.getD i 0
def Aky(s:B8):Option Nat:=
 if at0 s 0=34∨at0 s 0=39 then some 0
 else if at0 s 0=117∧at0 s 1=56∧at0 s 2=34 then some 2
 else if(at0 s 0=76∨at0 s 0=117∨at0 s 0=85)∧(at0 s 1=34∨at0 s 1=39) then some 1
 else none
def Jv(q:UInt8):B8→Option Nat
 |[]=>none
 |[x]=>if x=10 then none else if x=q then some 1 else none
 |x::y::r=>if x=10 then none
  else if x=92∧y≠10 then(Jv q r).map (·+2)
  else if x=q then some 1
  else(Jv q (y::r)).map (·+1)
def Nk:B8→Nat
 |[]=>0
 |[x]=>if Dw x||isDigit x||x==46 then 1 else 0
 |x::y::r=>if(x=101∨x=69∨x=112∨x=80)∧(y=43∨y=45) then 2+Nk r
  else if Dw x||isDigit x||x==46 then 1+Nk (y::r) else 0
def Wt(s:B8):Nat:=if isDigit (at0 s 0)||(at0 s 0==46&&isDigit (at0 s 1)) then 1+Nk (s.drop 1) else 0
def idL(s:B8):Nat:=(s.takeWhile fun x=>Dw x||isDigit x).length
def Cp:List B8:=[[37,58,37,58],[46,46,46],[60,60,61],[62,62,61],[45,62],[43,43],[45,45],[60,60],[62,62],[60,61],[62,61],[61,61],[33,61],[38,38],[124,124],[42,61],[47,61],[37,61],[43,61],[45,61],[38,61],[94,61],[124,61],[35,35],[60,58],[58,62],[60,37],[37,62],[37,58],
 [91],[93],[40],[41],[123],[125],[46],[38],[42],[43],[45],[126],[33],[47],[37],[60],[62],[94],[124],[63],[58],[59],[61],[44],[35]]
def Ahz(s:B8):Nat:=match Cp.find? (fun p=>p.isPrefixOf s) with
 |some p=>p.length
 |none=>0
def Oo(s:B8):Nat×Nat×Bool:=
 if Dw (at0 s 0) then(1,1+idL (s.drop 1),false)
 else if 0<Wt s then(2,Wt s,false)
 else if 0<Ahz s then(5,Ahz s,false)
 else(6,1,false)
def On(s:B8):Nat×Nat×Bool:=match Aky s with
 |some k=>match Jv (at0 s k) (s.drop (k+1)) with
  |some n=>(if at0 s k=34 then 4 else 3,k+1+n,false)
  |none=>if k=0 then(6,1,true) else Oo s
 |none=>Oo s
def Mp:B8→Option Nat
 |[]=>none
 |[_]=>none
 |x::y::r=>if x=42∧y=47 then some 2 else(Mp (y::r)).map (·+1)
def Xn(s:B8):Option (Nat×Bool):=
 if at0 s 0≠47 then none
 else if at0 s 1=47 then some ((s.takeWhile (·≠10)).length,false)
 else if at0 s 1≠42 then none
 else match Mp (s.drop 2) with
  |some n=>some (n+2,false)
  |none=>some (s.length,true)
theorem Xt{q:UInt8}:∀{s:B8}{n:Nat},Jv q s=some n→0<n∧n≤s.length
 |[],n,h=>by simp[Jv] at h
 |[x],n,h=>by
  unfold Jv at h
  split at h
  · cases h
  · split at h
    · cases h;simp
    · cases h
 |x::y::r,n,h=>by
  unfold Jv at h
  split at h
  · cases h
  · split at h
    · cases e:Jv q r with
      |none=>rw[e] at h;cases h
      |some m=>
       rw[e] at h;cases h
       have:=Xt e
       simp only[List.length_cons];omega
    · split at h
      · cases h;simp
      · cases e:Jv q (y::r) with
        |none=>rw[e] at h;cases h
        |some m=>
         rw[e] at h;cases h
         have:=Xt e
         simp only[List.length_cons] at this ⊢;omega
theorem Afr:∀s:B8,Nk s≤s.length
 |[]=>Nat.le_refl _
 |[x]=>by unfold Nk;split<;>simp
 |x::y::r=>by
  have h1:=Afr r
  have h2:=Afr (y::r)
  unfold Nk
  simp only[List.length_cons] at h2 ⊢
  split
  · omega
  · split<;>omega
theorem A5i(s:B8):idL s≤s.length:=by
 unfold idL
 induction s with
 |nil=>exact Nat.le_refl _
 |cons x s ih=>
  rw[List.takeWhile_cons]
  split
  · simp only[List.length_cons];omega
  · simp
theorem An1(s:B8):Ahz s≤s.length:=by
 unfold Ahz
 split
 · rename_i p h
   have:=List.find?_some h
   obtain⟨t,e⟩:=List.isPrefixOf_iff_prefix.1 this
   rw[←e,List.length_append];omega
 · exact Nat.zero_le _
theorem Ao2:∀{s:B8}{n:Nat},Mp s=some n→0<n∧n≤s.length
 |[],_,h=>by simp[Mp] at h
 |[_],_,h=>by simp[Mp] at h
 |x::y::r,n,h=>by
  unfold Mp at h
  split at h
  · cases h;simp
  · cases e:Mp (y::r) with
    |none=>rw[e] at h;cases h
    |some m=>
     rw[e] at h;cases h
     have:=Ao2 e
     simp only[List.length_cons] at this ⊢;omega
theorem Ah6{s:B8}(h:s≠[]):0<(Oo s).2.1∧(Oo s).2.1≤s.length:=by
 have hl:0<s.length:=List.length_pos_iff.2 h
 have hd:(s.drop 1).length=s.length-1:=by simp
 unfold Oo
 split
 · have:=A5i (s.drop 1)
   simp only[];omega
 · split
   · rename_i h1
     refine⟨h1,?_⟩
     simp only[] at h1 ⊢
     unfold Wt at h1 ⊢
     split
     · have:=Afr (s.drop 1);omega
     · exact Nat.zero_le _
   · split
     · rename_i h1;exact⟨h1,An1 s⟩
     · simp only[];omega
theorem Ajs{s:B8}{i:Nat}(h:at0 s i≠0):i<s.length:=by
 by_cases hi:i<s.length
 · exact hi
 · unfold at0 at h
   rw[List.getD_eq_getElem?_getD,List.getElem?_eq_none (by omega)] at h
   exact absurd rfl h
theorem Atg{s:B8}(h:s≠[]):0<(On s).2.1∧(On s).2.1≤s.length:=by
 have hl:0<s.length:=List.length_pos_iff.2 h
 unfold On
 split
 · rename_i k hk
   split
   · rename_i n hn
     have:=Xt hn
     have hd:(s.drop (k+1)).length=s.length-(k+1):=by simp
     simp only[];omega
   · split
     · simp only[];omega
     · exact Ah6 h
 · exact Ah6 h
end Go.Lx
namespace Go.Lx
abbrev Rn:=UInt8×Nat×Nat
def bts(l:List Rn):B8:=l.map (·.1)
def Vp:B8:=[61,47,39,40,41,33,60,62,45]
def Adb:B8:=[35,92,94,91,93,124,123,125,126]
def tri(c:UInt8):Option UInt8:=(Vp.zip Adb).find? (fun p=>p.1==c) |>.map (·.2)
def Dh:Nat→B8→List Rn
 |_,[]=>[]
 |i,[a]=>[(a,i,i+1)]
 |i,[a,b]=>[(a,i,i+1),(b,i+1,i+2)]
 |i,a::b::c::r=>if a=63∧b=63 then(match tri c with
  |some d=>(d,i,i+3)::Dh (i+3) r
  |none=>(a,i,i+1)::Dh (i+1) (b::c::r))
  else(a,i,i+1)::Dh (i+1) (b::c::r)
def Is:List Rn→List Rn
 |[]=>[]
 |[x]=>[x]
 |x::y::r=>if x.1=92∧y.1=10 then Is r else x::Is (y::r)
def Jz(s:B8):List Rn:=
 if s≠[]∧((Is (Dh 0 s)).getLast?.map (·.1))≠some 10 then Is (Dh 0 s)++[(10,s.length,s.length)] else Is (Dh 0 s)
end Go.Lx
