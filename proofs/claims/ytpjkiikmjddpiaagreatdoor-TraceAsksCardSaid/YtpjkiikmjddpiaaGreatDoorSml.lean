/-
  A part of the proof: which files and tokens are looked at.
-/
import Derived.Test.YtpjkiikmjddpiaaGreatDoorSto
namespace Go.Den
open Go.RowKit
set_option maxRecDepth 100000
theorem c18nil{h:H}{k:KV}(hk:k (.bool true) h):W1 (.func 18) [.nils,.int .i64 (Int.ofNat 200)] h k:=by
  refine w18 (n:=2) sw_ok (g18 ?_)
  unfold s18_0
  refine j18_1 ?_
  unfold s18_1
  rw[lenV_nils]
  refine and_i (fun q=>by cases q) fun _=>?_
  refine cnd_f rfl ?_
  rw[lenV_nils]
  exact and_i (fun _=>hk) fun q=>by cases q
theorem c19nil{h:H}{k:KV}(hk:k (.bool true) h):W1 (.func 19) [.nils] h k:=by
  refine w19 (n:=2) sw_ok (g19 ?_)
  unfold s19_0
  rw[lenV_nils]
  refine cnd_f rfl ?_
  refine j19_1 ?_
  unfold s19_1
  rw[lenV_nils]
  exact cnd_f rfl hk
def SmF(f:Fl):Prop:=f.1.length≤100∧f.2.length≤1500
theorem c5_1{h:H}{v:AV}{l:List Fl}(hv:SlE 2 h v (fcs l)){k:KV}(hk:∀b,(b=true→l.length≤8∧∀f∈l,SmF f)→k (.bool b) h):∀(n i m:Nat),12-i<n→i≤12→i≤l.length→m≤1500*i→(∀j (_:j<i) (hj:j<l.length),SmF l[j])→(r5 W1 k n).a1 .nils v (Int.ofNat m) (Int.ofNat i) h
  |0,_,_,hh,_,_,_,_=>absurd hh (Nat.not_lt_zero _)
  |n+1,i,m,hh,h12,hi,hm,ok=>by
    refine j5_1 ?_
    unfold s5_1
    rw[hv.len,fcs_len]
    refine and_q (b:=decide (i<12)) (fun k' hk'=>by rw[show iblt (Int.ofNat i) (Int.ofNat 12)=decide (i<12) from ilt _ _];exact hk') ?_
    rw[ilt]
    refine cnd_i (fun e=>?_) (fun e=>?_)
    · simp only[Bool.and_eq_true,decide_eq_true_eq] at e
      obtain⟨e,e12⟩:=e
      have e':i<(fcs l).length:=by rw[fcs_len];exact e
      have rd:∀{j:Nat}(hj:j<2){K:AV→Prop},K [S l[i].1,S l[i].2][j]→natI (Int.ofNat i) fun m=>elemA 2 m v fun a=>fAddr j a fun a=>ld1 a h K:=fun hj K hK=>natI_go ((hv.rd e').elem e' fun q o hq _ ha=>by
        rw[fcs_get e] at ha
        rw[fAddr_i]
        exact ha.ld1 hj hK)
      refine rd (j:=0) (by decide) ?_
      show asS (S l[i].1) _
      rw[asS_s]
      refine or_q (b:=decide (1500<l[i].2.length)) (fun k' hk'=>?_) ?_
      · refine rd (j:=1) (by decide) ?_
        show asS (S l[i].2) _
        rw[asS_s,show iblt (Int.ofNat 1500) (Int.ofNat l[i].2.length)=decide (1500<l[i].2.length) from ilt _ _];exact hk'
      rw[show iblt (Int.ofNat 100) (Int.ofNat l[i].1.length)=decide (100<l[i].1.length) from ilt _ _]
      refine cnd_i (fun q=>hk false fun q=>by cases q) fun q=>?_
      simp only[Bool.or_eq_false_iff,decide_eq_false_iff_not] at q
      refine rd (j:=1) (by decide) ?_
      show asS (S l[i].2) _
      rw[asS_s]
      refine fIadd (by omega) (fIadd (by omega) ?_)
      refine c5_1 hv hk n (i+1) (m+l[i].2.length) (by omega) (by omega) e (by omega) fun j hj hj'=>?_
      rcases Nat.lt_or_ge j i with w|w
      · exact ok j w hj'
      · have:j=i:=by omega
        subst this
        exact⟨by omega,by omega⟩
    · simp only[Bool.and_eq_false_iff,decide_eq_false_iff_not] at e
      rw[hv.len,fcs_len]
      refine and_q (b:=decide (m≤3000)) (fun k' hk'=>by rw[show ible (Int.ofNat m) (Int.ofNat 3000)=decide (m≤3000) from ile _ _];exact hk') ?_
      refine and_q (b:=true) (fun k' hk'=>?_) ?_
      · refine c18nil ?_
        rw[asB_b];exact hk'
      refine and_q (b:=true) (fun k' hk'=>?_) ?_
      · refine c19nil ?_
        rw[asB_b];exact hk'
      rw[show ible (Int.ofNat l.length) (Int.ofNat 8)=decide (l.length≤8) from ile _ _]
      refine hk _ fun q=>?_
      simp only[Bool.and_eq_true,decide_eq_true_eq] at q
      have q8:l.length≤8:=q.1.1.1
      refine⟨q8,fun f hf=>?_⟩
      obtain⟨j,hj,rfl⟩:=List.getElem_of_mem hf
      exact ok j (by omega) hj
theorem c5{h:H}{v:AV}{l:List Fl}(hv:SlE 2 h v (fcs l)){k:KV}(hk:∀b,(b=true→l.length≤8∧∀f∈l,SmF f)→k (.bool b) h):W1 (.func 5) [.nils,v] h k:=by
  refine w5 (n:=14) sw_ok (g5 ?_)
  unfold s5_0
  exact c5_1 hv hk 13 0 0 (by decide) (Nat.zero_le _) (Nat.zero_le _) (Nat.zero_le _) fun j hj=>absurd hj (Nat.not_lt_zero _)
/-! ### Tokens -/
structure SkA where
  m:List UInt8
  fl:List UInt8
  f:Int
  t:Int
  md:Bool
noncomputable def SkA.cs (x:SkA):List AV:=[S x.m,S x.fl,.int .i64 x.f,.int .i64 x.t,.bool x.md]
structure TkA where
  k:Int
  s:List UInt8
  sp:Bool
  fl:List UInt8
  f:Int
  t:Int
  md:Bool
  sv:AV
  st:List SkA
noncomputable def TkA.cs (x:TkA):List AV:=[.int .i64 x.k,S x.s,.bool x.sp,S x.fl,.int .i64 x.f,.int .i64 x.t,.bool x.md,x.sv]
noncomputable def tks (l:List TkA):List (List AV):=l.map TkA.cs
noncomputable def sks (l:List SkA):List (List AV):=l.map SkA.cs
theorem tks_len(l:List TkA):(tks l).length=l.length:=List.length_map ..
theorem tks_get{l:List TkA}{i:Nat}(h:i<l.length)(h':i<(tks l).length):(tks l)[i]=l[i].cs:=List.getElem_map ..
theorem sks_len(l:List SkA):(sks l).length=l.length:=List.length_map ..
theorem sks_get{l:List SkA}{i:Nat}(h:i<l.length)(h':i<(sks l).length):(sks l)[i]=l[i].cs:=List.getElem_map ..
/-- tokens that are read, and their sites -/
def TkR(h:H)(v:AV)(l:List TkA):Prop:=SlE 8 h v (tks l)∧∀x∈l,SlE 5 h x.sv (sks x.st)
theorem TkR.ext{h h':H}{v:AV}{l:List TkA}(r:TkR h v l)(x:Exh h h'):TkR h' v l:=⟨r.1.ext x,fun y hy=>(r.2 y hy).ext x⟩
theorem c6_1{h:H}{v:AV}{l:List TkA}(hv:TkR h v l)(h40:l.length≤40){k:KV}(hk:∀b,(b=true→l.length≤40∧∀x∈l,x.st.length≤20)→k (.bool b) h):∀(n i:Nat),l.length-i<n→i≤l.length→(∀j (_:j<i) (hj:j<l.length),l[j].st.length≤20)→(r6 W1 k n).a1 v (Int.ofNat i) h
  |0,_,hh,_,_=>absurd hh (Nat.not_lt_zero _)
  |n+1,i,hh,hi,ok=>by
    refine j6_1 ?_
    unfold s6_1
    rw[hv.1.len,tks_len,ilt]
    refine cnd_i (fun e=>?_) (fun e=>?_)
    · have e:i<l.length:=of_decide_eq_true e
      have e':i<(tks l).length:=by rw[tks_len];exact e
      have hs:=hv.2 _ (List.getElem_mem e)
      have rd:∀{j:Nat}(hj:j<l[i].cs.length){K:AV→Prop},K l[i].cs[j]→natI (Int.ofNat i) fun m=>elemA 8 m v fun a=>fAddr j a fun a=>ld1 a h K:=fun hj K hK=>natI_go ((hv.1.rd e').elem e' fun q o hq _ ha=>by
        rw[tks_get e] at ha
        rw[fAddr_i]
        exact ha.ld1 hj hK)
      refine rd (j:=1) (by show 1<8;decide) ?_
      show asS (S l[i].s) _
      rw[asS_s]
      refine or_q (b:=decide (20<l[i].st.length)) (fun k' hk'=>?_) ?_
      · refine rd (j:=7) (by show 7<8;decide) ?_
        show lenV l[i].sv _
        rw[hs.len,sks_len,show iblt (Int.ofNat 20) (Int.ofNat l[i].st.length)=decide (20<l[i].st.length) from ilt _ _];exact hk'
      refine cnd_i (fun q=>hk false fun q=>by cases q) fun q=>?_
      rw[Bool.or_eq_false_iff] at q
      have q2:=of_decide_eq_false q.2
      refine fIadd (by omega) ?_
      refine c6_1 hv h40 hk n (i+1) (by omega) e fun j hj hj'=>?_
      rcases Nat.lt_or_ge j i with w|w
      · exact ok j w hj'
      · have:j=i:=by omega
        subst this;omega
    · refine hk true fun _=>⟨h40,fun x hx=>?_⟩
      obtain⟨j,hj,rfl⟩:=List.getElem_of_mem hx
      exact ok j (by have:=of_decide_eq_false e;omega) hj
theorem c6{h:H}{v:AV}{l:List TkA}(hv:TkR h v l){k:KV}(hk:∀b,(b=true→l.length≤40∧∀x∈l,x.st.length≤20)→k (.bool b) h):W1 (.func 6) [v,.int .i64 (Int.ofNat 40)] h k:=by
  refine w6 (n:=l.length+2) sw_ok (g6 ?_)
  unfold s6_0
  rw[hv.1.len,tks_len,show iblt (Int.ofNat 40) (Int.ofNat l.length)=decide (40<l.length) from ilt _ _]
  refine cnd_i (fun q=>hk false fun q=>by cases q) fun q=>?_
  exact c6_1 hv (by have:=of_decide_eq_false q;omega) hk _ 0 (by omega) (Nat.zero_le _) fun j hj=>absurd hj (Nat.not_lt_zero _)
end Go.Den
