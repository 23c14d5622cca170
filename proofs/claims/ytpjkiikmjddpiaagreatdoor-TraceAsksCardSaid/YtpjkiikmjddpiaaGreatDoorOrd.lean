/-
  A part of the proof: texts in order; files by their paths.
-/
import Derived.Test.YtpjkiikmjddpiaaGreatDoorMak
namespace Go.Den
open Go.RowKit
set_option maxRecDepth 100000
/-! ### Texts in order -/
def ltB:List UInt8→List UInt8→Bool
  |[],[]=>false
  |[],_::_=>true
  |_::_,[]=>false
  |a::s,b::t=>if a.toNat<b.toNat then true else if a.toNat=b.toNat then ltB s t else false
theorem ltB_c(a b:UInt8)(s t:List UInt8):ltB (a::s) (b::t)=if a.toNat<b.toNat then true else if a.toNat=b.toNat then ltB s t else false:=by rw[ltB]
theorem strLess_map:∀s t:List UInt8,strLess (s.map (·.toNat)) (t.map (·.toNat))=ltB s t
  |[],[]=>rfl
  |[],_::_=>rfl
  |_::_,[]=>rfl
  |a::s,b::t=>by
    have e:strLess ((a::s).map (·.toNat)) ((b::t).map (·.toNat))=(Bool.rec (Bool.rec false (strLess (s.map (·.toNat)) (t.map (·.toNat))) (Nat.beq a.toNat b.toNat)) true (Nat.ble (Nat.add a.toNat 1) b.toNat):Bool):=rfl
    rw[e,strLess_map s t,ltB_c]
    by_cases h:a.toNat<b.toNat
    · rw[if_pos h,show Nat.ble (Nat.add a.toNat 1) b.toNat=true from Nat.ble_eq_true_of_le h]
    · rw[if_neg h]
      have h':Nat.ble (Nat.add a.toNat 1) b.toNat=false:=by
        cases q:Nat.ble (Nat.add a.toNat 1) b.toNat with
        |false=>rfl
        |true=>exact absurd (Nat.le_of_ble_eq_true q) h
      rw[h']
      by_cases h2:a.toNat=b.toNat
      · rw[if_pos h2,h2,Nat.beq_refl]
      · rw[if_neg h2]
        have h2':Nat.beq a.toNat b.toNat=false:=by
          cases q:Nat.beq a.toNat b.toNat with
          |false=>rfl
          |true=>exact absurd (Nat.eq_of_beq_eq_true q) h2
        rw[h2']
theorem ltS_enc(s t:List UInt8):ltS s.length (enc s) t.length (enc t)=ltB s t:=by
  unfold ltS
  rw[strBytes_enc,strBytes_enc,strLess_map]
theorem ltB_irr:∀s:List UInt8,ltB s s=false
  |[]=>rfl
  |a::s=>by unfold ltB;rw[if_neg (Nat.lt_irrefl _),if_pos rfl,ltB_irr s]
theorem ltB_tr:∀{a b c:List UInt8},ltB a b=true→ltB b c=true→ltB a c=true
  |[],[],_,h,_=>by cases h
  |[],_::_,[],_,h=>by cases h
  |[],_::_,_::_,_,_=>rfl
  |_::_,[],_,h,_=>by cases h
  |_::_,_::_,[],_,h=>by cases h
  |a::s,b::t,c::u,h1,h2=>by
    unfold ltB at h1 h2 ⊢
    by_cases q1:a.toNat<b.toNat
    · by_cases q2:b.toNat<c.toNat
      · rw[if_pos (by omega)]
      · rw[if_neg q2] at h2
        by_cases q3:b.toNat=c.toNat
        · rw[if_pos (by omega)]
        · rw[if_neg q3] at h2;cases h2
    · rw[if_neg q1] at h1
      by_cases q3:a.toNat=b.toNat
      · rw[if_pos q3] at h1
        by_cases q2:b.toNat<c.toNat
        · rw[if_pos (by omega)]
        · rw[if_neg q2] at h2
          by_cases q4:b.toNat=c.toNat
          · rw[if_pos q4] at h2
            rw[if_neg (by omega),if_pos (by omega)]
            exact ltB_tr h1 h2
          · rw[if_neg q4] at h2;cases h2
      · rw[if_neg q3] at h1;cases h1
theorem ltB_tot:∀{a b:List UInt8},ltB a b=false→ltB b a=false→a=b
  |[],[],_,_=>rfl
  |[],_::_,h,_=>by cases h
  |_::_,[],_,h=>by cases h
  |a::s,b::t,h1,h2=>by
    unfold ltB at h1 h2
    by_cases q1:a.toNat<b.toNat
    · rw[if_pos q1] at h1;cases h1
    · rw[if_neg q1] at h1
      by_cases q2:b.toNat<a.toNat
      · rw[if_pos q2] at h2;cases h2
      · rw[if_neg q2] at h2
        have e:a.toNat=b.toNat:=by omega
        rw[if_pos e] at h1
        rw[if_pos e.symm] at h2
        rw[ltB_tot h1 h2,UInt8.toNat_inj.1 e]
/-! ### Files by their paths -/
abbrev Fl:=List UInt8×List UInt8
def textOf:List Fl→List UInt8→Option (List UInt8)
  |[],_=>none
  |f::r,p=>if f.1=p then some f.2 else textOf r p
def Ris:List Fl→Prop
  |[]=>True
  |f::r=>(∀g∈r,ltB f.1 g.1=true)∧Ris r
def kAt:List Fl→List UInt8→Nat
  |[],_=>0
  |f::r,p=>if ltB f.1 p=true then kAt r p+1 else 0
def insF(p x:List UInt8):List Fl→List Fl
  |[]=>[(p,x)]
  |f::r=>if ltB f.1 p=true then f::insF p x r else(p,x)::f::r
theorem kAt_le:∀(l:List Fl)(p:List UInt8),kAt l p≤l.length
  |[],_=>Nat.le_refl _
  |f::r,p=>by
    unfold kAt
    split
    · exact Nat.succ_le_succ (kAt_le r p)
    · exact Nat.zero_le _
theorem textOf_no:∀{l:List Fl}{p:List UInt8},(∀g∈l,g.1≠p)→textOf l p=none
  |[],_,_=>rfl
  |f::r,p,h=>by
    unfold textOf
    rw[if_neg (h f (by simp)),textOf_no fun g hg=>h g (List.mem_cons_of_mem _ hg)]
theorem kAt_lt:∀{l:List Fl}{p:List UInt8}{i:Nat}(h:i<l.length),i<kAt l p→ltB l[i].1 p=true
  |f::r,p,0,_,hi=>by
    unfold kAt at hi
    split at hi
    · assumption
    · cases hi
  |f::r,p,i+1,h,hi=>by
    unfold kAt at hi
    split at hi
    · exact kAt_lt (l:=r) (Nat.lt_of_succ_lt_succ h) (Nat.lt_of_succ_lt_succ hi)
    · cases hi
theorem kAt_nlt:∀{l:List Fl}{p:List UInt8}(h:kAt l p<l.length),ltB l[kAt l p].1 p=false
  |f::r,p,h=>by
    by_cases q:ltB f.1 p=true
    · have e:kAt (f::r) p=kAt r p+1:=by rw[kAt,if_pos q]
      simp only[e] at h ⊢
      exact kAt_nlt (l:=r) (Nat.lt_of_succ_lt_succ h)
    · have e:kAt (f::r) p=0:=by rw[kAt,if_neg q]
      simp only[e,List.getElem_cons_zero]
      exact Bool.eq_false_iff.2 q
/-- what stands where a path belongs -/
theorem at_text:∀{l:List Fl}{p:List UInt8},Ris l→(∀h:kAt l p<l.length,l[kAt l p].1=p→textOf l p=some l[kAt l p].2)∧((¬∃h:kAt l p<l.length,l[kAt l p].1=p)→textOf l p=none)
  |[],_,_=>And.intro (fun h=>(by cases h)) (fun _=>rfl)
  |f::r,p,hr=>by
    obtain⟨h1,h2⟩:=at_text (p:=p) hr.2
    by_cases q:ltB f.1 p=true
    · have e:kAt (f::r) p=kAt r p+1:=by rw[kAt,if_pos q]
      have ne:f.1≠p:=fun e'=>by rw[e',ltB_irr] at q;cases q
      have et:textOf (f::r) p=textOf r p:=by rw[textOf,if_neg ne]
      rw[et]
      simp only[e,List.getElem_cons_succ,List.length_cons,Nat.add_lt_add_iff_right]
      exact⟨h1,h2⟩
    · have e:kAt (f::r) p=0:=by rw[kAt,if_neg q]
      simp only[e,List.getElem_cons_zero]
      refine⟨fun _ e'=>by rw[textOf,if_pos e'],fun hno=>textOf_no fun g hg e'=>?_⟩
      rcases List.mem_cons.1 hg with rfl|hg
      · exact hno ⟨Nat.succ_pos _,e'⟩
      · have:=hr.1 g hg
        rw[e'] at this
        exact q this
theorem insF_eq:∀(l:List Fl)(p x:List UInt8),insF p x l=l.take (kAt l p)++(p,x)::l.drop (kAt l p)
  |[],_,_=>rfl
  |f::r,p,x=>by
    by_cases q:ltB f.1 p=true
    · have e:kAt (f::r) p=kAt r p+1:=by rw[kAt,if_pos q]
      rw[insF,if_pos q,e,List.take_succ_cons,List.drop_succ_cons,insF_eq r p x];rfl
    · have e:kAt (f::r) p=0:=by rw[kAt,if_neg q]
      rw[insF,if_neg q,e];rfl
theorem insF_mem{p x:List UInt8}:∀{l:List Fl}{g:Fl},g∈insF p x l→g=(p,x)∨g∈l
  |[],g,h=>.inl (List.mem_singleton.1 h)
  |f::r,g,h=>by
    unfold insF at h
    split at h
    · rcases List.mem_cons.1 h with rfl|h
      · exact .inr (by simp)
      · exact(insF_mem h).imp id fun h=>List.mem_cons_of_mem _ h
    · rcases List.mem_cons.1 h with rfl|h
      · exact .inl rfl
      · exact .inr h
theorem insF_ris{p x:List UInt8}:∀{l:List Fl},Ris l→textOf l p=none→Ris (insF p x l)
  |[],_,_=>And.intro (fun g hg=>(by cases hg)) trivial
  |f::r,hr,hn=>by
    have ne:f.1≠p:=fun e=>by rw[textOf,if_pos e] at hn;cases hn
    have hn':textOf r p=none:=by rw[textOf,if_neg ne] at hn;exact hn
    unfold insF
    by_cases q:ltB f.1 p=true
    · rw[if_pos q]
      refine⟨fun g hg=>?_,insF_ris hr.2 hn'⟩
      rcases insF_mem hg with rfl|hg
      · exact q
      · exact hr.1 g hg
    · rw[if_neg q]
      have hp:ltB p f.1=true:=by
        cases e:ltB p f.1 with
        |true=>rfl
        |false=>exact absurd (ltB_tot (Bool.eq_false_iff.2 q) e) ne
      refine⟨fun g hg=>?_,hr⟩
      rcases List.mem_cons.1 hg with rfl|hg
      · exact hp
      · exact ltB_tr hp (hr.1 g hg)
theorem insF_text{p x:List UInt8}:∀{l:List Fl},textOf l p=none→∀q,textOf (insF p x l) q=if p=q then some x else textOf l q
  |[],_,q=>rfl
  |f::r,hn,q=>by
    have ne:f.1≠p:=fun e=>by rw[textOf,if_pos e] at hn;cases hn
    have hn':textOf r p=none:=by rw[textOf,if_neg ne] at hn;exact hn
    unfold insF
    by_cases c:ltB f.1 p=true
    · rw[if_pos c]
      rw[textOf,insF_text hn' q]
      by_cases e:f.1=q
      · rw[if_pos e,if_neg fun e'=>ne (by rw[e,e']),textOf,if_pos e]
      · rw[if_neg e,textOf,if_neg e]
    · rw[if_neg c];rfl
theorem textOf_snoc{p x:List UInt8}:∀{l:List Fl},textOf l p=none→∀q,textOf (l++[(p,x)]) q=if p=q then some x else textOf l q
  |[],_,q=>rfl
  |f::r,hn,q=>by
    have ne:f.1≠p:=fun e=>by rw[textOf,if_pos e] at hn;cases hn
    have hn':textOf r p=none:=by rw[textOf,if_neg ne] at hn;exact hn
    show textOf (f::(r++[(p,x)])) q=_
    rw[textOf,textOf_snoc hn' q]
    by_cases e:f.1=q
    · rw[if_pos e,if_neg fun e'=>ne (by rw[e,e']),textOf,if_pos e]
    · rw[if_neg e,textOf,if_neg e]
theorem textOf_some{l:List Fl}{p:List UInt8}{x:List UInt8}:textOf l p=some x→∃g∈l,g.1=p∧g.2=x:=by
  induction l with
  |nil=>intro h;cases h
  |cons f r ih=>
    intro h
    unfold textOf at h
    by_cases e:f.1=p
    · rw[if_pos e] at h;cases h
      exact⟨f,by simp,e,rfl⟩
    · rw[if_neg e] at h
      obtain⟨g,hg,e1,e2⟩:=ih h
      exact⟨g,List.mem_cons_of_mem _ hg,e1,e2⟩
end Go.Den
