/-
  A part of the proof: what a path is: the program's answer.
-/
import Derived.Test.YtpjkiikmjddpiaaGreatDoorVal
namespace Go.Den
open Go.RowKit
set_option maxRecDepth 100000
theorem P.zero{l:P}(h:l.nat=0):l=.z:=by
  cases l with
  |z=>rfl
  |l p=>have:2*p.nat+1=0:=h;omega
  |r p=>have:2*p.nat+2=0:=h;omega
theorem pFs_nat:∀(n:Nat)(l:P),l.nat+1<2^(n+1)→pFs n l.nat=l
  |0,l,h=>by rw[P.zero (l:=l) (by omega)];rfl
  |n+1,l,h=>by
    have e:∀m,pFs (n+1) m=Bool.rec (Bool.rec (P.r (pFs n (Nat.div (Nat.sub m 2) 2))) (P.l (pFs n (Nat.div (Nat.sub m 1) 2))) (Nat.beq (Nat.mod m 2) 1)) P.z (Nat.beq m 0):=fun _=>rfl
    rw[e]
    have hp:2^(n+1+1)=2*2^(n+1):=by rw[Nat.pow_succ];omega
    cases l with
    |z=>rfl
    |l p=>
      have h1:(P.l p).nat=2*p.nat+1:=rfl
      rw[h1] at h ⊢
      rw[show Nat.beq (2*p.nat+1) 0=false from rfl,show Nat.beq (Nat.mod (2*p.nat+1) 2) 1=true by
        rw[show Nat.mod (2*p.nat+1) 2=1 by show(2*p.nat+1)%2=1;omega];rfl]
      have:Nat.div (Nat.sub (2*p.nat+1) 1) 2=p.nat:=by show(2*p.nat+1-1) / 2=_;omega
      rw[this,pFs_nat n p (by omega)]
    |r p=>
      have h1:(P.r p).nat=2*p.nat+2:=rfl
      rw[h1] at h ⊢
      rw[show Nat.beq (2*p.nat+2) 0=false from rfl,show Nat.beq (Nat.mod (2*p.nat+2) 2) 1=false by
        rw[show Nat.mod (2*p.nat+2) 2=0 by show(2*p.nat+2)%2=0;omega];rfl]
      have:Nat.div (Nat.sub (2*p.nat+2) 2) 2=p.nat:=by show(2*p.nat+2-2) / 2=_;omega
      rw[this,pFs_nat n p (by omega)]
/-! ### A round of the loop over a text's parts -/
noncomputable abbrev fAv (F:FT) (x y:Nat):FT:=fput (fset F 9 (.str x y)) (some 3) (.str x y)
theorem vassign{c:Caller Prop FT}{F:FT}{x y:Nat}{h:H}{K:KX'}:runA env c lp33_0.pls [] noJ lp33_0.assign .root (setPs lp33_0.params [.str x y] F) h K=K .normal (fAv F x y) h:=by kernel_rfl
theorem vbody{c:Caller Prop FT}{F:FT}{x y:Nat}{h:H}{l:P}{k:KV}{p:AV}:runA env c lp33_0.pls [] noJ lp33_0.body .root (fAv (fset F 2 p) x y) h (endY l k)=
    c (.func 58) [.str x y] h fun v h1=>asB v fun b=>cnd (bnot b) (st1 p (.bool false) h1 fun h2=>endY l k .ret F h2) (endY l k .normal F h1):=by kernel_rfl
theorem vokl:okLp PP env G lp33_0=true:=by kernel_rfl
theorem vyl(x y:Nat):Nat.beq (len [AV.str x y]) (len lp33_0.params)=true:=by kernel_rfl
theorem v_yield{h:H}{l p1:P}{F:FT}{t:Tm}{s:List UInt8}{k:KV}(ha:h.at l=.loop F lp33_0 .ready .normal)(hF:F 2=.ptr p1 0)(hp:h.at p1=.row t 1 0 4 true)(ne:l≠p1)(hs:s.length≤1000000)
    (hk1:partB s=true→∀h',h'.next=h.next→(∀c,c≠l→h'.at c=h.at c)→h'.at l=.loop F lp33_0 .ready .normal→k (.bool true) h')
    (hk2:partB s=false→∀h',h'.next=h.next→(∀c,c≠l→c≠p1→h'.at c=h.at c)→h'.at l=.loop F lp33_0 .done .ret→(∃t',h'.at p1=.row t' 1 0 4 true∧tget t' 0=.bool false)→k (.bool false) h'):W1 (.yield l.nat) [S s] h k:=by
  refine yield_ok mixed envOk sw_ok ?_
  unfold yieldA
  rw[pFs_nat l.nat l Nat.lt_two_pow_self,Nat.beq_refl]
  show yieldP env W1 (okLp PP env G) l [.str s.length (enc s)] h k
  unfold yieldP
  rw[ha]
  show Bool.rec bad0 (runA env W1 lp33_0.pls [] noJ lp33_0.assign .root (setPs lp33_0.params [.str s.length (enc s)] F) h (midY env W1 l lp33_0 k)) (band (okLp PP env G lp33_0) (Nat.beq (len [AV.str s.length (enc s)]) (len lp33_0.params)))
  rw[vokl,vyl]
  show runA env W1 lp33_0.pls [] noJ lp33_0.assign .root (setPs lp33_0.params [.str s.length (enc s)] F) h (midY env W1 l lp33_0 k)
  rw[vassign]
  show asLp (h.at l) (fun f' s' st pd=>Bool.rec bad0 (h.putK l (.loop f' s' .busy pd) (fun h=>runA env W1 lp33_0.pls [] noJ lp33_0.body .root (fAv F s.length (enc s)) h (endY l k))) (isReady st))
  rw[ha]
  show h.putK l (.loop F lp33_0 .busy .normal) (fun h=>runA env W1 lp33_0.pls [] noJ lp33_0.body .root (fAv F s.length (enc s)) h (endY l k))
  rw[putK_eq,←fset_self hF,vbody]
  rw[fset_self hF]
  have hp1:(h.put l (.loop F lp33_0 .busy .normal)).at p1=.row t 1 0 4 true:=by rw[at_put_o ne.symm];exact hp
  refine c58 hs ?_
  rw[asB_b,bn_not]
  refine cnd_i (fun e=>?_) (fun e=>?_)
  · have e:partB s=false:=by cases w:partB s with
      |true=>rw[w] at e;cases e
      |false=>rfl
    refine st1_i hp1 (Nat.le_refl _) (by decide) rfl ?_
    generalize e2:(h.put l (.loop F lp33_0 .busy .normal)).put p1 (.row (tlist [.bool false] 0 t) 1 0 4 true)=h2
    have hl2:h2.at l=.loop F lp33_0 .busy .normal:=by rw[←e2,at_put_o ne];exact at_put_same _ _ _
    show asLp (h2.at l) _
    rw[hl2]
    show Hp.putK h2 l (.loop F lp33_0 .done .ret) (fun h=>k (.bool false) h)
    rw[putK_eq]
    refine hk2 e _ (by rw[next_put,←e2,next_put,next_put]) (fun c hc hc'=>by rw[at_put_o hc,←e2,at_put_o hc',at_put_o hc]) (at_put_same _ _ _) ⟨_,by rw[at_put_o ne.symm,←e2];exact at_put_same _ _ _,by rw[tget_tlist];simp⟩
  · have e:partB s=true:=by cases w:partB s with
      |true=>rfl
      |false=>rw[w] at e;cases e
    generalize e2:h.put l (.loop F lp33_0 .busy .normal)=h2
    have hl2:h2.at l=.loop F lp33_0 .busy .normal:=by rw[←e2];exact at_put_same _ _ _
    show asLp (h2.at l) _
    rw[hl2]
    show Hp.putK h2 l (.loop F lp33_0 .ready .normal) (fun h=>k (.bool true) h)
    rw[putK_eq]
    exact hk1 e _ (by rw[next_put,←e2,next_put]) (fun c hc=>by rw[at_put_o hc,←e2,at_put_o hc]) (at_put_same _ _ _)
/-! ### Where a slash is -/
theorem partsA_no:∀{r acc:List UInt8},47∉r→partsA acc r=[acc++r]
  |[],acc,_=>by rw[partsA,List.append_nil]
  |c::r,acc,h=>by
    rw[partsA,if_neg fun e=>h (by simp[e]),partsA_no fun e=>h (List.mem_cons_of_mem _ e),List.append_assoc];rfl
theorem partsA_at:∀{r acc:List UInt8}{i:Nat}(hi:i<r.length),r[i]=47→(∀j (hj:j<i),r[j]≠47)→partsA acc r=(acc++r.take i)::parts (r.drop (i+1))
  |c::r,acc,0,_,e,_=>by
    have e:c=47:=e
    rw[partsA,if_pos e,List.take_zero,List.append_nil];rfl
  |c::r,acc,i+1,hi,e,hn=>by
    have h0:c≠47:=hn 0 (Nat.succ_pos _)
    rw[partsA,if_neg h0,partsA_at (r:=r) (i:=i) (Nat.lt_of_succ_lt_succ hi) e (fun j hj=>hn (j+1) (Nat.succ_lt_succ hj)),List.append_assoc];rfl
theorem posL_ge{L:List UInt8}{x:UInt8}(h:x∈L):∃i,∃hi:i<L.length,posL L x=Int.ofNat i∧L[i]=x∧∀j (hj:j<i),L[j]≠x:=by
  unfold posL
  rw[idxByte_eq (by have:=x.toNat_lt;omega)]
  have ex:x.toNat.toUInt8=x:=by rw[Nat.toUInt8,UInt8.ofNat_toNat]
  rw[ex]
  cases e:L.findIdx? (·==x) with
  |none=>
    rw[List.findIdx?_eq_none_iff] at e
    have:=e x h;simp at this
  |some j=>
    obtain⟨hlt,he,hn⟩:=List.findIdx?_eq_some_iff_getElem.1 e
    refine⟨j,hlt,?_,beq_iff_eq.1 he,fun i hi q=>?_⟩
    · show((0+j:Nat):Int)=_
      rw[Nat.zero_add];rfl
    · have:=hn i hi
      rw[q] at this;simp at this
theorem c107{s:List UInt8}{h:H}{k:KV}(hk:k (.int .i64 (posL s 47)) h):W1 (.func 107) [S s,.str 1 47] h k:=by
  refine w107 (n:=1) sw_ok (g107 ?_)
  unfold s107_0
  refine w153 (n:=1) sw_ok (g153 ?_)
  unfold s153_0
  refine or_q (b:=decide ([47]=s)) (fun k' hk'=>by rw[show strEq 1 47 s.length (enc s)=decide ([47]=s) from strEq_enc (s:=[47])];exact hk') ?_
  rw[show ibeq (Int.ofNat 1) (Int.ofNat 0)=false from rfl,Bool.false_or]
  refine cnd_i (fun e=>?_) (fun _=>?_)
  · have e:[47]=s:=of_decide_eq_true e
    subst e
    show asI .i64 (.int .i64 (Int.ofNat 0)) _
    rw[asI_k]
    exact hk
  · refine cnd_t rfl ?_
    refine idxS_i (s:=[47]) (i:=0) (by decide) ?_
    refine use2 (c196 s 47) ?_
    rw[asI_k]
    show asI .i64 (.int .i64 (posL s 47)) _
    rw[asI_k]
    exact hk
end Go.Den
