/-
 Proof.
-/
import Derived.Test.YtcnmehbkpaoolaaGreatDoorL8
import Derived.KernelRfl
import Derived.Test.YtcnmehbkpaoolaaGreatDoorConz
import Derived.Test.YtcnmehbkpaoolaaGreatDoorEvr
namespace Go.Den
open Go.RowKit
set_option maxRecDepth 100000
theorem Azv{h:H}{v:AV}{L:List En}{k:KV}(hr:RdT h v L)(hs:∀x∈L,Sl x.sites)(hl:L.length≤1000000)(hk:∀b,(b=true→∀x∈L,x.text.length≤300)→k (.bool b) h):∀(n i:Nat),L.length-i<n→i≤L.length→(∀x∈L.take i,x.text.length≤300)→(r14 W1 k n).a1 v (Int.ofNat i) h
 |0,_,hn,_,_=>absurd hn (Nat.not_lt_zero _)
 |n+1,i,hn,hi,h0=>by
  refine Bc6 ?_
  unfold Ams
  rw[hr.len,ilt]
  refine Ap (fun e=>?_) (fun e=>?_)
  · have e:i<L.length:=of_decide_eq_true e
    have hi':i<(L.map En.cells).length:=by rw[List.length_map];exact e
    have hc:(L.map En.cells)[i]=L[i].cells:=Ij e hi'
    have hR:=hr.rd e
    rw[Bh]
    refine hR.fld (j:=1) hi' (by rw[hc];show 1<8;decide) ?_
    simp only[hc]
    show asS (S L[i].text) _
    rw[De]
    have hlen:∃m,∀K:Nat→Prop,Hy L[i].sites K=K m:=by
     rcases hs _ (List.getElem_mem e) with q|⟨b,o,m,z,t,q⟩
     · exact⟨0,fun K=>by rw[q];rfl⟩
     · exact⟨m,fun K=>by rw[q];rfl⟩
    obtain⟨m,hm⟩:=hlen
    refine Mc (b:=decide (20<m)) (fun k' hk'=>?_) ?_
    · rw[Bh]
      refine hR.fld (j:=7) hi' (by rw[hc];show 7<8;decide) ?_
      simp only[hc]
      show Hy L[i].sites _
      rw[hm,ilt];exact hk'
    rw[ilt]
    refine Ap (fun q=>?_) (fun q=>?_)
    · exact hk false (fun q=>by cases q)
    · simp only[Bool.or_eq_false_iff,decide_eq_false_iff_not] at q
      rw[Eg,Cv (by omega),Ak]
      refine Azv hr hs hl hk n (i+1) (by omega) e fun x hx=>?_
      rw[List.take_succ_eq_append_getElem e] at hx
      rcases List.mem_append.1 hx with hx|hx
      · exact h0 x hx
      · rw[List.mem_singleton] at hx;subst hx;omega
  · have e:i=L.length:=by have:=of_decide_eq_false e;omega
    subst e
    rw[List.take_length] at h0
    exact hk true fun _=>h0
theorem c14{h:H}{v:AV}{L:List En}{m:Nat}{k:KV}(hr:RdT h v L)(hs:∀x∈L,Sl x.sites)(hm:m≤1000000)(hk:∀b,(b=true→L.length≤m∧∀x∈L,x.text.length≤300)→k (.bool b) h):W1 (.func 14) [v,.int .i64 (Int.ofNat m)] h k:=by
 refine w14 (n:=L.length+2) Bw (g14 ?_)
 unfold Amt
 rw[hr.len,ilt]
 refine Ap (fun _=>hk false fun q=>by cases q) (fun e=>?_)
 have e:=of_decide_eq_false e
 exact Azv hr hs (by omega) (fun b hb=>hk b fun q=>⟨by omega,hb q⟩) _ 0 (by omega) (Nat.zero_le _) fun x hx=>by rw[List.take_zero] at hx;cases hx
end Go.Den
