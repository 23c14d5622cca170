/-
  Plain: which tokens a text has.
-/
import Derived.Test.YtpjkiikmjddpiaaGreatDoorLexp
namespace Go.Lx
abbrev Rn:=UInt8×Nat×Nat
def bts(l:List Rn):B8:=l.map (·.1)
def triF:B8:=[61,47,39,40,41,33,60,62,45]
def triT:B8:=[35,92,94,91,93,124,123,125,126]
def tri(c:UInt8):Option UInt8:=(triF.zip triT).find? (fun p=>p.1==c) |>.map (·.2)
/-- bytes, trigraphs as one -/
def plainR:Nat→B8→List Rn
  |_,[]=>[]
  |i,[a]=>[(a,i,i+1)]
  |i,[a,b]=>[(a,i,i+1),(b,i+1,i+2)]
  |i,a::b::c::r=>if a=63∧b=63 then(match tri c with
      |some d=>(d,i,i+3)::plainR (i+3) r
      |none=>(a,i,i+1)::plainR (i+1) (b::c::r))
    else(a,i,i+1)::plainR (i+1) (b::c::r)
/-- without what is left out -/
def splR:List Rn→List Rn
  |[]=>[]
  |[x]=>[x]
  |x::y::r=>if x.1=92∧y.1=10 then splR r else x::splR (y::r)
def charsR(s:B8):List Rn:=
  if s≠[]∧((splR (plainR 0 s)).getLast?.map (·.1))≠some 10 then splR (plainR 0 s)++[(10,s.length,s.length)] else splR (plainR 0 s)
structure TokF where
  kind:Nat
  text:B8
  space:Bool
  f:Nat
  t:Nat
structure LineF where
  toks:List TokF
  f:Nat
  t:Nat
  opn:Bool
structure DgF where
  code:Nat
  f:Nat
  t:Nat
def fromR(l:List Rn)(i:Nat):Nat:=(l.getD i (0,0,0)).2.1
def toR(l:List Rn)(i:Nat):Nat:=(l.getD i (0,0,0)).2.2
def tokR(l:List Rn)(sp:Bool):TokF:=⟨(nextL (bts l)).1,(bts l).take (nextL (bts l)).2.1,sp,fromR l 0,toR l ((nextL (bts l)).2.1-1)⟩
/-- the last line's end is the text's -/
def endL(n:Nat)(out:List LineF):List LineF:=match out.getLast? with
  |none=>out
  |some x=>out.dropLast++[{ x with t:=n }]
/-- all lines: of what is left, with what was read of this one -/
def lexR(n:Nat):Nat→List Rn→List TokF→Nat→Bool→List LineF→List DgF→List LineF×List DgF
  |0,_,_,_,_,out,ds=>(out,ds)
  |_+1,[],_,_,_,out,ds=>(endL n out,ds)
  |k+1,r::l,toks,fr,sp,out,ds=>
    if r.1=10 then lexR n k l [] r.2.2 false (out++[⟨toks,fr,r.2.2,false⟩]) ds
    else if isWhite r.1 then lexR n k l toks fr true out ds
    else match comL (bts (r::l)) with
      |some (_,true)=>(out++[⟨toks,fr,n,true⟩],ds++[⟨1,r.2.1,toR (r::l) 1⟩])
      |some (j,false)=>lexR n k ((r::l).drop j) toks fr true out ds
      |none=>lexR n k ((r::l).drop (nextL (bts (r::l))).2.1) (toks++[tokR (r::l) sp]) fr false out
          (if(nextL (bts (r::l))).2.2=true then ds++[⟨2,(tokR (r::l) sp).f,(tokR (r::l) sp).t⟩] else ds)
def linesL(s:B8):List LineF×List DgF:=lexR s.length ((charsR s).length+1) (charsR s) [] 0 false [] []
/-- the tokens of one line's bytes, without places -/
def lexT:Nat→B8→Bool→List (Nat×B8×Bool)
  |0,_,_=>[]
  |_+1,[],_=>[]
  |k+1,x::s,sp=>
    if x=10 then[]
    else if isWhite x then lexT k s true
    else match comL (x::s) with
      |some (_,true)=>[]
      |some (j,false)=>lexT k ((x::s).drop j) true
      |none=>((nextL (x::s)).1,(x::s).take (nextL (x::s)).2.1,sp)::lexT k ((x::s).drop (nextL (x::s)).2.1) false
/-! ### Numbers -/
/-- signs of a number that no sign follows -/
def numC(x:UInt8):Bool:=(isLetter x||isDigit x||x==46)&&!(x==101||x==69||x==112||x==80)
def stopC(x:UInt8):Bool:=!(isLetter x||isDigit x||x==46)
theorem numT_word:∀(w:B8)(c:UInt8)(r:B8),(∀x∈w,numC x=true)→stopC c=true→numT (w++c::r)=w.length
  |[],c,r,_,hc=>by
    have h1:(isLetter c||isDigit c||c==46)=false:=by simpa[stopC] using hc
    have h2:¬(c=101∨c=69∨c=112∨c=80):=by
      rintro(rfl|rfl|rfl|rfl)<;>exact absurd h1 (by decide)
    cases r with
    |nil=>simp[numT,h1]
    |cons y r=>simp[numT,h1,h2]
  |x::w,c,r,hw,hc=>by
    have hx:=hw x (by simp)
    have ih:=numT_word w c r (fun y hy=>hw y (by simp[hy])) hc
    simp only[numC,Bool.and_eq_true,Bool.not_eq_true',Bool.or_eq_false_iff,beq_eq_false_iff_ne] at hx
    obtain⟨h1,⟨⟨h2,h3⟩,h4⟩,h5⟩:=hx
    have hn:∀y:UInt8,¬((x=101∨x=69∨x=112∨x=80)∧(y=43∨y=45)):=fun y h=>by
      rcases h.1 with h|h|h|h<;>contradiction
    cases w with
    |nil=>
      show numT (x::c::r)=1
      unfold numT
      rw[if_neg (hn c),if_pos h1]
      have:numT (c::r)=0:=ih
      rw[this]
    |cons y w=>
      show numT (x::y::(w++c::r))=w.length+1+1
      unfold numT
      rw[if_neg (hn y),if_pos h1]
      have:numT (y::(w++c::r))=w.length+1:=ih
      rw[this];omega
theorem next_num{d:UInt8}{w r:B8}{c:UInt8}(hd:isDigit d=true)(hw:∀x∈w,numC x=true)(hc:stopC c=true):nextL (d::(w++c::r))=(2,1+w.length,false):=by
  have hd':48≤d.toNat∧d.toNat≤57:=by simpa[isDigit] using hd
  have ne:∀y:UInt8,(y.toNat<48∨57<y.toNat)→d≠y:=fun y hy e=>by subst e;omega
  have e0:at0 (d::(w++c::r)) 0=d:=rfl
  have hl:letL (d::(w++c::r))=none:=by
    unfold letL
    rw[e0,if_neg,if_neg,if_neg]
    · rintro⟨h|h|h,_⟩<;>exact absurd h (ne _ (by decide))
    · rintro⟨h,_⟩;exact absurd h (ne _ (by decide))
    · rintro(h|h)<;>exact absurd h (ne _ (by decide))
  have hlt:isLetter d=false:=by
    unfold isLetter
    rw[decide_eq_false (show¬97≤d.toNat by omega),decide_eq_false (show¬65≤d.toNat by omega),decide_eq_false (show¬d.toNat=95 by omega)];rfl
  have hn:numL0 (d::(w++c::r))=1+w.length:=by
    unfold numL0
    rw[e0,hd]
    show 1+numT (w++c::r)=_
    rw[numT_word w c r hw hc]
  unfold nextL next2
  rw[hl]
  simp only[]
  rw[e0,hlt,hn,if_neg (by simp),if_pos (by omega)]
end Go.Lx
