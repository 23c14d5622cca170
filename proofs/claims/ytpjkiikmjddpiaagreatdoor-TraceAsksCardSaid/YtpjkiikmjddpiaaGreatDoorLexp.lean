/-
  Plain: what the document's lexer reads, on the bytes that are left.
-/
namespace Go.Lx
abbrev B8:=List UInt8
def isLetter(x:UInt8):Bool:=(decide (97≤x.toNat)&&decide (x.toNat≤122))||(decide (65≤x.toNat)&&decide (x.toNat≤90))||decide (x.toNat=95)
def isDigit(x:UInt8):Bool:=decide (48≤x.toNat)&&decide (x.toNat≤57)
def isWhite(x:UInt8):Bool:=decide (x.toNat=32)||decide (x.toNat=9)||(decide (11≤x.toNat)&&decide (x.toNat≤13))
/-- a byte; 0 beyond the end -/
def at0(s:B8)(i:Nat):UInt8:=s.getD i 0
/-- letters ahead of a quote -/
def letL(s:B8):Option Nat:=
  if at0 s 0=34∨at0 s 0=39 then some 0
  else if at0 s 0=117∧at0 s 1=56∧at0 s 2=34 then some 2
  else if(at0 s 0=76∨at0 s 0=117∨at0 s 0=85)∧(at0 s 1=34∨at0 s 1=39) then some 1
  else none
/-- how much stands up to the quote's end, behind its beginning -/
def quoL(q:UInt8):B8→Option Nat
  |[]=>none
  |[x]=>if x=10 then none else if x=q then some 1 else none
  |x::y::r=>if x=10 then none
    else if x=92∧y≠10 then(quoL q r).map (·+2)
    else if x=q then some 1
    else(quoL q (y::r)).map (·+1)
def numT:B8→Nat
  |[]=>0
  |[x]=>if isLetter x||isDigit x||x==46 then 1 else 0
  |x::y::r=>if(x=101∨x=69∨x=112∨x=80)∧(y=43∨y=45) then 2+numT r
    else if isLetter x||isDigit x||x==46 then 1+numT (y::r) else 0
def numL0(s:B8):Nat:=if isDigit (at0 s 0)||(at0 s 0==46&&isDigit (at0 s 1)) then 1+numT (s.drop 1) else 0
def idL(s:B8):Nat:=(s.takeWhile fun x=>isLetter x||isDigit x).length
def puncts:List B8:=[[37,58,37,58],[46,46,46],[60,60,61],[62,62,61],[45,62],[43,43],[45,45],[60,60],[62,62],[60,61],[62,61],[61,61],[33,61],[38,38],[124,124],[42,61],[47,61],[37,61],[43,61],[45,61],[38,61],[94,61],[124,61],[35,35],[60,58],[58,62],[60,37],[37,62],[37,58],
  [91],[93],[40],[41],[123],[125],[46],[38],[42],[43],[45],[126],[33],[47],[37],[60],[62],[94],[124],[63],[58],[59],[61],[44],[35]]
def pctL(s:B8):Nat:=match puncts.find? (fun p=>p.isPrefixOf s) with
  |some p=>p.length
  |none=>0
def next2(s:B8):Nat×Nat×Bool:=
  if isLetter (at0 s 0) then(1,1+idL (s.drop 1),false)
  else if 0<numL0 s then(2,numL0 s,false)
  else if 0<pctL s then(5,pctL s,false)
  else(6,1,false)
def nextL(s:B8):Nat×Nat×Bool:=match letL s with
  |some k=>match quoL (at0 s k) (s.drop (k+1)) with
    |some n=>(if at0 s k=34 then 4 else 3,k+1+n,false)
    |none=>if k=0 then(6,1,true) else next2 s
  |none=>next2 s
/-- behind a comment; none: none begins; (n, true): it does not end -/
def blkL:B8→Option Nat
  |[]=>none
  |[_]=>none
  |x::y::r=>if x=42∧y=47 then some 2 else(blkL (y::r)).map (·+1)
def comL(s:B8):Option (Nat×Bool):=
  if at0 s 0≠47 then none
  else if at0 s 1=47 then some ((s.takeWhile (·≠10)).length,false)
  else if at0 s 1≠42 then none
  else match blkL (s.drop 2) with
    |some n=>some (n+2,false)
    |none=>some (s.length,true)
theorem quoL_le{q:UInt8}:∀{s:B8}{n:Nat},quoL q s=some n→0<n∧n≤s.length
  |[],n,h=>by simp[quoL] at h
  |[x],n,h=>by
    unfold quoL at h
    split at h
    · cases h
    · split at h
      · cases h;simp
      · cases h
  |x::y::r,n,h=>by
    unfold quoL at h
    split at h
    · cases h
    · split at h
      · cases e:quoL q r with
        |none=>rw[e] at h;cases h
        |some m=>
          rw[e] at h;cases h
          have:=quoL_le e
          simp only[List.length_cons];omega
      · split at h
        · cases h;simp
        · cases e:quoL q (y::r) with
          |none=>rw[e] at h;cases h
          |some m=>
            rw[e] at h;cases h
            have:=quoL_le e
            simp only[List.length_cons] at this ⊢;omega
theorem numT_le:∀s:B8,numT s≤s.length
  |[]=>Nat.le_refl _
  |[x]=>by unfold numT;split<;>simp
  |x::y::r=>by
    have h1:=numT_le r
    have h2:=numT_le (y::r)
    unfold numT
    simp only[List.length_cons] at h2 ⊢
    split
    · omega
    · split<;>omega
theorem idL_le(s:B8):idL s≤s.length:=by
  unfold idL
  induction s with
  |nil=>exact Nat.le_refl _
  |cons x s ih=>
    rw[List.takeWhile_cons]
    split
    · simp only[List.length_cons];omega
    · simp
theorem pctL_le(s:B8):pctL s≤s.length:=by
  unfold pctL
  split
  · rename_i p h
    have:=List.find?_some h
    obtain⟨t,e⟩:=List.isPrefixOf_iff_prefix.1 this
    rw[←e,List.length_append];omega
  · exact Nat.zero_le _
theorem blkL_le:∀{s:B8}{n:Nat},blkL s=some n→0<n∧n≤s.length
  |[],_,h=>by simp[blkL] at h
  |[_],_,h=>by simp[blkL] at h
  |x::y::r,n,h=>by
    unfold blkL at h
    split at h
    · cases h;simp
    · cases e:blkL (y::r) with
      |none=>rw[e] at h;cases h
      |some m=>
        rw[e] at h;cases h
        have:=blkL_le e
        simp only[List.length_cons] at this ⊢;omega
theorem next2_le{s:B8}(h:s≠[]):0<(next2 s).2.1∧(next2 s).2.1≤s.length:=by
  have hl:0<s.length:=List.length_pos_iff.2 h
  have hd:(s.drop 1).length=s.length-1:=by simp
  unfold next2
  split
  · have:=idL_le (s.drop 1)
    simp only[];omega
  · split
    · rename_i h1
      refine⟨h1,?_⟩
      simp only[] at h1 ⊢
      unfold numL0 at h1 ⊢
      split
      · have:=numT_le (s.drop 1);omega
      · exact Nat.zero_le _
    · split
      · rename_i h1;exact⟨h1,pctL_le s⟩
      · simp only[];omega
theorem at0_some{s:B8}{i:Nat}(h:at0 s i≠0):i<s.length:=by
  by_cases hi:i<s.length
  · exact hi
  · unfold at0 at h
    rw[List.getD_eq_getElem?_getD,List.getElem?_eq_none (by omega)] at h
    exact absurd rfl h
/-- something is read, and no more than there is -/
theorem nextL_le{s:B8}(h:s≠[]):0<(nextL s).2.1∧(nextL s).2.1≤s.length:=by
  have hl:0<s.length:=List.length_pos_iff.2 h
  unfold nextL
  split
  · rename_i k hk
    split
    · rename_i n hn
      have:=quoL_le hn
      have hd:(s.drop (k+1)).length=s.length-(k+1):=by simp
      simp only[];omega
    · split
      · simp only[];omega
      · exact next2_le h
  · exact next2_le h
end Go.Lx
