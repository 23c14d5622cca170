/-
 Proof.
-/
import Derived.Test.YtcnmehbkpaoolaaGreatDoorL3
import Derived.Test.YtcnmehbkpaoolaaGreatDoorQuot
namespace Go.Den
open Go.RowKit
set_option maxRecDepth 100000
theorem Aqs(s:List UInt8)(c:UInt8):Cj (s++[c])=Cj s++(if isQ c=true then[92,c] else[c]):=by rw[Aar];unfold Cj;simp
theorem Ay9(s:List UInt8):(Cj s).length≤2*s.length:=by
 rw[Lq];have:=List.countP_le_length (p:=isQ) (l:=s);omega
def A72(lo:Nat)(h:H)(v:AV)(l:List UInt8):Prop:=Ct TB 1 lo h v (eb l)∨(l=[34]∧∃q,v=.slice q 0 1 1 true∧q.nat<h.next.nat∧h.at q=.row (T1 34) 1 0 TB true)
theorem Awp{lo:Nat}{h:H}{v:AV}{l:List UInt8}{x:UInt8}(hb:A72 lo h v l)(hl:l.length+1≤1099511627776)(hlo:lo≤h.next.nat){k:KV}(hk:∀v' h',Ct TB 1 lo h' v' (eb (l++[x]))→Kp TB lo h h'→k v' h'):
 oK (Au env 115 (fun e ei=>Ak 1 [(0,.int .u8 (Int.ofNat x.toNat))] h e ei)) fun x h'=>oK (Az env .append [115,115] [v,x] h') k:=by
 rcases hb with hb|⟨rfl,q,rfl,hq,ha⟩
 · exact Aws hb hl hlo hk
 · rw[All,Ad,Apn]
   have hx:Ce (h.new (.row (T1 (Int.ofNat x.toNat)) 1 0 TB true)) 1 (.slice h.next 0 1 1 true)=some (1,[ub x]):=Afe (ds:=[ub x]) rfl
   have ha':(h.new (.row (T1 (Int.ofNat x.toNat)) 1 0 TB true)).at q=.row (T1 34) 1 0 TB true:=by rw[Dw hq];exact ha
   have hn:h.next.nat≤(h.new (.row (T1 (Int.ofNat x.toNat)) 1 0 TB true)).next.nat:=by rw[Bh];omega
   have kp:Kp TB lo h (h.new (.row (T1 (Int.ofNat x.toNat)) 1 0 TB true)):=.new
   generalize h.new (.row (T1 (Int.ofNat x.toNat)) 1 0 TB true)=h1 at hx ha' hn kp ⊢
   have hr:h1.read q 0 (Nat.mul 1 1)=some [ub 34]:=by
    rw[Zn ha' (show Nat.mul 1 1≤1 by decide)]
    kernel_rfl
   have e:Dv (some false) (.slice q 0 1 1 true) (.slice h.next 0 1 1 true) h1 TB ei8=some (.slice h1.next 0 2 1 false,h1.new (.row (Aj [ub 34,ub x] 0 .e) 2 0 TB false)):=by
    unfold Dv
    rw[show Ul (some false) h1 ei8 (.slice h.next 0 1 1 true)=some (1,[ub x]) from hx]
    show(Option.rec none (fun old=>Wr TB 1 2 (Ks old [ub x]) h1) (h1.read q 0 (Nat.mul 1 1)):Option (AV×H))=_
    rw[hr];rfl
   rw[e,Ad]
   refine hk _ _ (.inr ⟨h1.next,_,2,0,false,rfl,by omega,by rw[Bh];omega,Ax _ _,Nat.le_refl 2,Nat.zero_le _,fun i hi=>?_⟩) (kp.trans .new)
   have hi:i<2:=hi
   match i,hi with
   |0,_=>exact⟨rfl,fun j hj=>by have:j=0:=Nat.lt_one_iff.1 hj;subst this;rw[Av];rfl⟩
   |1,_=>exact⟨rfl,fun j hj=>by have:j=0:=Nat.lt_one_iff.1 hj;subst this;rw[Av];rfl⟩
section
variable{hE:H}{s:List UInt8}{k:KV}(hl:s.length≤1000000)(hk:∀h',Exh hE h'→k (S (Mt s)) h')
include hl hk
theorem Bf2:∀(n i:Nat){h:H}{v:AV},2*(s.length-i)+1≤n→i≤s.length→Exh hE h→A72 hE.next.nat h v (34::Cj (s.take i))→
 (r24 W1 k n).a1 s.length (enc s) v (Int.ofNat i) h:=by
 intro n
 induction n using Nat.strongRecOn with
 |_ n ih=>
  intro i h v hn hi x hb
  obtain⟨n,rfl⟩:∃m,n=m+1:=⟨n-1,by omega⟩
  have hle:=Ay9 (s.take i)
  have htl:(s.take i).length≤s.length:=by rw[List.length_take];omega
  refine Bcl ?_
  unfold Anq
  rw[ilt]
  refine Ap (fun e=>?_) (fun e=>?_)
  · have e:i<s.length:=of_decide_eq_true e
    have go:∀(v:AV)(h:H)(m:Nat),m≤n→2*(s.length-i)≤m→Exh hE h→(∀l,l=34::(Cj (s.take i)++if isQ s[i]=true then[92] else[])→l.length≤3000000→A72 hE.next.nat h v l)→(r24 W1 k m).a2 s.length (enc s) v (Int.ofNat i) h:=fun v h m hm hm2 x hb=>by
     obtain⟨m,rfl⟩:∃q,m=q+1:=⟨m-1,by omega⟩
     refine Bck ?_
     unfold Anp
     rw[Aq]
     refine Bi e ?_
     have hlen:(34::(Cj (s.take i)++if isQ s[i]=true then[92] else[])).length≤3000000:=by
      simp only[List.length_cons,List.length_append];split<;>simp only[List.length_cons,List.length_nil]<;>omega
     refine Awp (hb _ rfl hlen) (by omega) x.1 fun v' h' hb' hk'=>?_
     rw[Ea,Co (by omega),Al]
     refine ih m (by omega) (i+1) (by omega) e (x.kp (Nat.le_refl _) hk') ?_
     have:34::Cj (s.take (i+1))=(34::(Cj (s.take i)++if isQ s[i]=true then[92] else[]))++[s[i]]:=by
      rw[List.take_succ_eq_append_getElem e,Aqs]
      by_cases hq:isQ s[i]=true
      · rw[if_pos hq,if_pos hq];simp
      · rw[if_neg hq,if_neg hq];simp
     rw[this];exact .inl hb'
    rw[Aq]
    refine Bi e ?_
    refine Ma (b:=decide (s[i]=92)) (fun k' hk'=>?_) ?_
    · refine Bi e ?_
      rw[toNat_eq _ 92 (by decide)];exact hk'
    rw[toNat_eq _ 34 (by decide)]
    refine Ap (fun hq=>?_) (fun hq=>?_)
    · refine Awp (x:=92) hb (by simp only[List.length_cons];omega) x.1 fun v' h' hb' hk'=>?_
      refine go v' h' n (Nat.le_refl _) (by omega) (x.kp (Nat.le_refl _) hk') fun l el _=>?_
      rw[el,if_pos (show isQ s[i]=true from hq)]
      exact .inl hb'
    · refine go v h n (Nat.le_refl _) (by omega) x fun l el _=>?_
      rw[el,if_neg (show¬isQ s[i]=true from by rw[show isQ s[i]=false from hq];simp),List.append_nil]
      exact hb
  · have e:i=s.length:=by have:=of_decide_eq_false e;omega
    subst e
    rw[List.take_length] at hb hle
    refine Awp (x:=34) hb (by simp only[List.length_cons];omega) x.1 fun v' h' hb' hk'=>?_
    rw[Azj hb',Ad,Bp]
    exact hk _ (x.kp (Nat.le_refl _) hk')
theorem c24:W1 (.func 24) [S s] hE k:=by
 refine w24 (n:=2*s.length+2) Bs (g24 ?_)
 unfold Anr
 rw[All,Ad]
 refine Bf2 hl hk _ 0 (by omega) (Nat.zero_le _) .new ?_
 rw[List.take_zero]
 exact .inr ⟨rfl,hE.next,rfl,by rw[Bh];omega,Ax _ _⟩
end
end Go.Den
