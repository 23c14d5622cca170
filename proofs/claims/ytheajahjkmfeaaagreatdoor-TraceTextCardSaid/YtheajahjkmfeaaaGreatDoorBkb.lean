/-
 Proof.
-/
import Derived.Test.YtheajahjkmfeaaaGreatDoorBka
namespace Go.Den
open Go.RowKit
set_option maxRecDepth 100000
open Go.Lx (Rn Er Bt tri Ll Yd)
theorem Dg{n:Nat}{K:Nat→Prop}(hk:K n):Ce (Int.ofNat n) K:=by rw[On];exact hk
def A54(o:Option (UInt8×UInt8)):AV:=match o with
 |some p=>.tuple [ub p.2,.bool true]
 |none=>.tuple [.int .u8 (.ofNat 0),.bool false]
theorem A35{c:UInt8}{k:KV}{h:H}:∀(n i:Nat),9-i<n→i≤9→k (A54 (((Ll.zip Yd).drop i).find? fun p=>p.1==c)) h→(r43 W1 k n).a1 (Int.ofNat c.toNat) (Int.ofNat i) h
 |0,_,hn,_,_=>absurd hn (Nat.not_lt_zero _)
 |n+1,i,hn,hi,hk=>by
  refine Be1 ?_
  unfold An1
  rw[ilt]
  refine Br (fun e=>?_) (fun e=>?_)
  · have e:i<9:=of_decide_eq_true e
    have e1:i<Ll.length:=e
    have e2:i<Yd.length:=e
    have e3:i<(Ll.zip Yd).length:=e
    rw[List.drop_eq_getElem_cons e3,List.find?_cons,List.getElem_zip] at hk
    rw[On]
    refine Fz (s:=Ll) e1 ?_
    rw[A8k]
    refine Br (fun ec=>?_) (fun ec=>?_)
    · have ec:Ll[i]=c:=of_decide_eq_true ec
      rw[show(Ll[i]==c)=true from beq_iff_eq.2 ec] at hk
      rw[On]
      refine Fz (s:=Yd) e2 ?_
      exact hk
    · have ec:¬Ll[i]=c:=of_decide_eq_false ec
      rw[show(Ll[i]==c)=false from beq_eq_false_iff_ne.2 ec] at hk
      rw[Xu,Pu (by omega),Gp]
      exact A35 n (i+1) (by omega) (by omega) hk
  · have e:i=9:=by have:=of_decide_eq_false e;omega
    subst e
    exact hk
theorem c43(c:UInt8):Pure PP G h0 43 [ub c] (A54 ((Ll.zip Yd).find? fun p=>p.1==c)):=by
 refine w43 (n:=11) Bg (g43 ?_)
 unfold An2
 exact A35 10 0 (by omega) (by omega) rfl
theorem Ahc(c:UInt8):A54 ((Ll.zip Yd).find? fun p=>p.1==c)=(match tri c with|some d=>.tuple [ub d,.bool true]|none=>.tuple [.int .u8 (.ofNat 0),.bool false]):=by
 unfold tri
 cases(Ll.zip Yd).find? fun p=>p.1==c with
 |none=>rfl
 |some p=>rfl
section
variable{hE:H}{s:List UInt8}{k:KV}(hl:s.length≤1000000)
include hl
theorem Bay(n:Nat):∀(i:Nat)(acc:List Rn){h:H}{v:AV},2*(s.length-i)<n→i≤s.length→acc.length≤i→Exh hE h→Cb 70 3 hE.next.nat h v (cel acc)→
 (∀h' v',Exh hE h'→Cb 70 3 hE.next.nat h' v' (cel (acc++Bt i (s.drop i)))→k v' h')→(r20 W1 k n).a1 s.length (enc s) v (Int.ofNat i) h:=by
 induction n using Nat.strongRecOn with
 |_ n ih=>
  intro i acc h v hn hi ha hx hb hk
  obtain⟨n,rfl⟩:∃m,n=m+1:=⟨n-1,by omega⟩
  refine Bff ?_
  unfold Aou
  rw[ilt]
  refine Br (fun e=>?_) (fun e=>?_)
  · have e:i<s.length:=of_decide_eq_true e
    obtain⟨n,rfl⟩:∃m,n=m+1:=⟨n-1,by omega⟩
    have ec:∀(l:List Rn)(r:Rn),cel (l++[r])=cel l++[[ub r.1,.int .i64 (.ofNat r.2.1),.int .i64 (.ofNat r.2.2)]]:=fun l r=>by unfold cel;rw[List.map_append];rfl
    have one:∀h',(∀h2:i+2<s.length,s[i]=63→s[i+1]=63→tri s[i+2]=none)→h'=h→(r20 W1 k (n+1)).a2 s.length (enc s) v (Int.ofNat i) h':=fun h' hno e'=>by
     subst e'
     refine Bfe ?_
     unfold Aot
     rw[On]
     refine Fz e ?_
     rw[Xu,Pu (by omega),Gp,A3o,Ad]
     refine Ayh hb (by rw[Dh];omega) hx.1 fun v' h2 hb' hk'=>?_
     rw[Gp]
     refine ih n (by omega) (i+1) (acc++[(s[i],i,i+1)]) (by omega) e (by rw[List.length_append,List.length_singleton];omega) (hx.kp (Nat.le_refl _) hk') (by rw[ec];exact hb') fun h3 v3 a b=>?_
     refine hk h3 v3 a ?_
     rw[Wr e hno]
     rw[List.append_assoc] at b;exact b
    rw[Xu,Pu (by omega),Gp]
    refine Mc (b:=decide (s[i]=63)) (fun k' hk'=>?_) ?_
    · rw[On]
      refine Fz e ?_
      rw[Ww _ 63 (by decide)];exact hk'
    rw[ilt]
    refine Fa (fun e1=>?_) (fun e1=>?_)
    · rw[Bool.and_eq_true,decide_eq_true_eq,decide_eq_true_eq] at e1
      rw[Xu,Pu (by omega),Gp,On]
      refine Fz (show i+1<s.length by omega) ?_
      rw[Ww _ 63 (by decide)]
      refine Br (fun e2=>?_) (fun e2=>?_)
      · have e2:s[i+1]=63:=of_decide_eq_true e2
        rw[Gp,On]
        refine Fz e1.1 ?_
        refine Lj (c43 s[i+2]) ?_ rfl (by rw[Ahc];cases tri s[i+2]<;>rfl)
        rw[Ahc]
        cases ht:tri s[i+2] with
        |none=>
         show ext 0 (.tuple [.int .u8 (.ofNat 0),.bool false]) _
         rw[Hu,Bj,Ht,Bn]
         exact Cp rfl (one _ (fun _ _ _=>ht) rfl)
        |some d=>
         show ext 0 (.tuple [ub d,.bool true]) _
         rw[Hu]
         unfold ub
         rw[Bj,Ht,Bn]
         refine Dp rfl ?_
         rw[Xu,Pu (by omega),Gp,A3o,Ad]
         refine Ayh hb (by rw[Dh];omega) hx.1 fun v' h2 hb' hk'=>?_
         rw[Gp]
         refine ih (n+1) (by omega) (i+3) (acc++[(d,i,i+3)]) (by omega) (by omega) (by rw[List.length_append,List.length_singleton];omega) (hx.kp (Nat.le_refl _) hk') (by rw[ec];exact hb') fun h3 v3 a b=>?_
         refine hk h3 v3 a ?_
         rw[Ti e1.1 e1.2 e2 ht]
         rw[List.append_assoc] at b;exact b
      · exact one _ (fun _ _ h'=>absurd h' (of_decide_eq_false e2)) rfl
    · exact Cp rfl (one _ (fun h2 h' _=>by rw[decide_eq_true h2,decide_eq_true h'] at e1;cases e1) rfl)
  · have e:¬i<s.length:=of_decide_eq_false e
    rw[List.drop_eq_nil_of_le (by omega),show Bt i []=[] by rw[Bt],List.append_nil] at hk
    exact hk _ _ hx hb
theorem Bjl{h:H}(hk:∀h' v',Exh h h'→Cb 70 3 h.next.nat h' v' (cel (Bt 0 s))→k v' h'):W1 (.func 20) [S s] h k:=by
 refine w20 (n:=2*s.length+1+1) Bg (g20 ?_)
 unfold Aov
 refine Bay hl (2*s.length+1) 0 [] (by omega) (Nat.zero_le _) (Nat.le_refl _) .refl (.inl ⟨rfl,rfl⟩) fun h' v' a b=>hk h' v' a b
end
theorem Aac:∀(s:List UInt8)(i:Nat),(Bt i s).length≤s.length∧∀x∈Bt i s,x.2.1≤i+s.length∧x.2.2≤i+s.length
 |[],i=>by rw[Bt];exact⟨Nat.le_refl _,fun x hx=>by cases hx⟩
 |[a],i=>by
  rw[Bt]
  refine⟨Nat.le_refl _,fun x hx=>?_⟩
  simp only[List.mem_singleton] at hx;subst hx
  simp
 |[a,b],i=>by
  rw[Bt]
  refine⟨Nat.le_refl _,fun x hx=>?_⟩
  simp only[List.mem_cons,List.not_mem_nil,or_false] at hx
  rcases hx with rfl|rfl
  · simp only[List.length_cons,List.length_nil];omega
  · simp
 |a::b::c::r,i=>by
  have h1:=Aac (b::c::r) (i+1)
  have h2:=Aac r (i+3)
  have g1:((a,i,i+1)::Bt (i+1) (b::c::r)).length≤(a::b::c::r).length∧∀x∈(a,i,i+1)::Bt (i+1) (b::c::r),x.2.1≤i+(a::b::c::r).length∧x.2.2≤i+(a::b::c::r).length:=by
   refine⟨by simp only[List.length_cons] at h1 ⊢;omega,fun x hx=>?_⟩
   rcases List.mem_cons.1 hx with rfl|hx
   · simp only[List.length_cons];omega
   · have:=h1.2 x hx
     simp only[List.length_cons] at this ⊢;omega
  rw[Bt]
  split
  · split
    · refine⟨by simp only[List.length_cons];omega,fun x hx=>?_⟩
      rcases List.mem_cons.1 hx with rfl|hx
      · simp only[List.length_cons];omega
      · have:=h2.2 x hx
        simp only[List.length_cons] at this ⊢;omega
    · exact g1
  · exact g1
theorem Aj7:∀(l:List Rn),(Er l).length≤l.length∧∀x∈Er l,x∈l
 |[]=>by rw[Er];exact⟨Nat.le_refl _,fun x hx=>hx⟩
 |[x]=>by rw[Er];exact⟨Nat.le_refl _,fun x hx=>hx⟩
 |x::y::r=>by
  have h1:=Aj7 r
  have h2:=Aj7 (y::r)
  rw[Zo]
  split
  · exact⟨by simp only[List.length_cons];omega,fun z hz=>by simp[h1.2 z hz]⟩
  · refine⟨by simp only[List.length_cons] at h2 ⊢;omega,fun z hz=>?_⟩
    rcases List.mem_cons.1 hz with rfl|hz
    · simp
    · have:=h2.2 z hz;simp only[List.mem_cons] at this ⊢;exact .inr this
theorem As3{l:List Rn}{i:Nat}(h:i+1<l.length)(e:l[i].1=92)(e1:l[i+1].1=10):Er (l.drop i)=Er (l.drop (i+2)):=by
 rw[List.drop_eq_getElem_cons (show i<l.length by omega),List.drop_eq_getElem_cons h,Zo,if_pos ⟨e,e1⟩]
theorem Azl{l:List Rn}{i:Nat}(h:i<l.length)(hs:¬(l[i].1=92∧∃h1:i+1<l.length,l[i+1].1=10)):Er (l.drop i)=l[i]::Er (l.drop (i+1)):=by
 rw[List.drop_eq_getElem_cons h]
 rcases Nat.lt_or_ge (i+1) l.length with h1|h1
 · rw[List.drop_eq_getElem_cons h1,Zo,if_neg (fun e=>hs ⟨e.1,h1,e.2⟩)]
 · rw[List.drop_eq_nil_of_le h1];rw[Er,Er]
theorem Alo {hE : H} {l : List Rn} {v0 : AV} {k : KV} (hl : l.length ≤ 1000000) (hr : Rd 3 hE v0 (cel l)) :
    ∀ (n i : Nat) (acc : List Rn) {h : H} {v : AV}, 2 * (l.length - i) < n → i ≤ l.length → acc.length ≤ i → Exh hE h → Cb 70 3 hE.next.nat h v (cel acc) →
    (∀ h' v', Exh hE h' → Cb 70 3 hE.next.nat h' v' (cel (acc ++ Er (l.drop i))) → k v' h') → (r19 W1 k n).a1 v0 v (Int.ofNat i) h
  | 0, _, _, _, _, hn, _, _, _, _, _ => absurd hn (Nat.not_lt_zero _)
  | n + 1, i, acc, h, v, hn, hi, ha, hx, hb, hk => by
    refine A3i ?_
    unfold Ahq
    have hr' := hr.ext hx
    rw [hr'.len, Dh, ilt]
    refine Br (fun e => ?_) (fun e => ?_)
    · have e : i < l.length := of_decide_eq_true e
      have e' : i < (cel l).length := by rw [Dh]; exact e
      obtain ⟨m, rfl⟩ : ∃ m, n = m + 1 := ⟨n - 1, by omega⟩
      refine Gu (hr'.fld (j := 0) e' (by rw [Hs e]; exact Nat.zero_lt_succ _) ?_)
      simp only [Hs e, Abh, List.getElem_cons_zero]
      unfold ub
      rw [Bj, Ww _ 92 (by decide)]
      refine Mc (b := decide (i + 1 < l.length)) (fun k' hk' => Bw (by omega) ?_) ?_
      · rw [hr'.len, Dh, ilt]; exact hk'
      have rest : ¬ (l[i].1 = 92 ∧ ∃ h1 : i + 1 < l.length, l[i + 1].1 = 10) → Ce (Int.ofNat i) fun m22 => Cc 3 m22 v0 fun v23 => ldn 3 v23 h fun v24 =>
          oK (Ap env 65 (fun e ei => Ak 1 [(0, v24)] h e ei)) fun v25 h26 => oK (Ar env .append [65, 65] [v, v25] h26) fun v27 h28 => (r19 W1 k (m + 1)).a2 v0 v27 (Int.ofNat i) h28 := fun hs => by
        refine Gu (hr'.all e' (by rw [Hs e]; rfl) ?_)
        rw [Hs e]
        unfold Abh
        refine Ayh hb (by rw [Dh]; omega) hx.1 fun v' h' hb' hk' => ?_
        refine A3h ?_
        unfold Ahp
        refine Bw (by omega) ?_
        have ec : cel (acc ++ [l[i]]) = cel acc ++ [[ub l[i].1, .int .i64 (.ofNat l[i].2.1), .int .i64 (.ofNat l[i].2.2)]] := by unfold cel; rw [List.map_append]; rfl
        refine Alo hl hr m (i + 1) (acc ++ [l[i]]) (by omega) e (by rw [List.length_append, List.length_singleton]; omega) (hx.kp (Nat.le_refl _) hk') (by rw [ec]; exact hb') fun h2 v2 a b => ?_
        rw [Azl e hs] at hk
        refine hk h2 v2 a ?_
        rw [List.append_assoc] at b; exact b
      refine Fa (fun e2 => ?_) (fun e2 => ?_)
      · simp only [Bool.and_eq_true, decide_eq_true_eq] at e2
        have e2' : i + 1 < (cel l).length := by rw [Dh]; exact e2.2
        refine Bw (by omega) (Gu (hr'.fld (j := 0) e2' (by rw [Hs e2.2]; exact Nat.zero_lt_succ _) ?_))
        simp only [Hs e2.2, Abh, List.getElem_cons_zero]
        unfold ub
        rw [Bj, Ww _ 10 (by decide)]
        refine Br (fun e3 => ?_) (fun e3 => ?_)
        · have e3 : l[i + 1].1 = 10 := of_decide_eq_true e3
          refine Bw (by omega) ?_
          refine A3h ?_
          unfold Ahp
          refine Bw (by omega) ?_
          rw [As3 e2.2 e2.1 e3] at hk
          exact Alo hl hr m (i + 2) acc (by omega) e2.2 (by omega) hx hb hk
        · exact rest fun hs => by
            obtain ⟨_, h1, h2⟩ := hs
            exact absurd h2 (of_decide_eq_false e3)
      · exact Cp rfl (rest fun hs => by
          obtain ⟨h0, h1, _⟩ := hs
          have h0 : l[i].1 = UInt8.ofNat 92 := h0
          rw [decide_eq_true h0, decide_eq_true h1] at e2; cases e2)
    · have e : ¬ i < l.length := of_decide_eq_false e
      rw [List.drop_eq_nil_of_le (by omega), show Er [] = [] by rw [Er], List.append_nil] at hk
      exact hk _ _ hx hb
theorem Cb.rd'{e:TypeId}{sz lo:Nat}{h:H}{v:AV}{L:List (List AV)}(hb:Cb e sz lo h v L):(v=.Ai∧L=[])∨Rd sz h v L:=by
 rcases hb with⟨a,b⟩|⟨q,t,m,z,w,rfl,_,h2,h3,h4,_,h6⟩
 · exact .inl ⟨a,b⟩
 · exact .inr (.row q 0 t m z e w false rfl h2 h3 (by omega) h6)
theorem Bjm{l:List Rn}{lo:Nat}{v0:AV}{h:H}{k:KV}(hl:l.length≤1000000)(hb:Cb 70 3 lo h v0 (cel l))(hk:∀h' v',Exh h h'→Cb 70 3 h.next.nat h' v' (cel (Er l))→k v' h'):W1 (.func 19) [v0] h k:=by
 refine w19 (n:=2*l.length+1+1) Bg (g19 ?_)
 unfold Aow
 rcases hb.rd' with⟨rfl,e⟩|hr
 · have:l=[]:=by cases l with
    |nil=>rfl
    |cons x l=>exact absurd e (by unfold cel;simp)
   subst this
   refine A3i ?_
   unfold Ahq
   rw[Lh,ilt]
   exact Cp rfl (hk h .Ai .refl (.inl ⟨rfl,by rw[Er];rfl⟩))
 · exact Alo hl hr (2*l.length+1) 0 [] (by omega) (Nat.zero_le _) (Nat.le_refl _) .refl (.inl ⟨rfl,rfl⟩) fun h' v' a b=>hk h' v' a b
def inR(f t:Int)(r:Rn):Bool:=decide (f≤Int.ofNat r.2.1)&&decide (Int.ofNat r.2.2≤t)
def bkR(f t:Int)(l:List Rn):List UInt8:=(l.filter (inR f t)).map (·.1)
theorem Bjw{f t:Int}{l:List Rn}{i:Nat}(h:i<l.length)(hc:inR f t l[i]=true):bkR f t (l.take (i+1))=bkR f t (l.take i)++[l[i].1]:=by
 unfold bkR
 rw[List.take_succ_eq_append_getElem h,List.filter_append,List.map_append,List.filter_cons_of_pos hc];rfl
theorem Bjx{f t:Int}{l:List Rn}{i:Nat}(h:i<l.length)(hc:inR f t l[i]=false):bkR f t (l.take (i+1))=bkR f t (l.take i):=by
 unfold bkR
 rw[List.take_succ_eq_append_getElem h,List.filter_append,List.map_append,List.filter_cons_of_neg (by rw[hc];decide)];simp
theorem A2d(f t:Int)(l:List Rn):(bkR f t l).length≤l.length:=by
 unfold bkR
 rw[List.length_map];exact List.length_filter_le _ _
section
variable{l:List Rn}{f t:Int}(hl:l.length≤1000000)
include hl
theorem Baw{hE:H}{v0:AV}{k:KV}(hr:Rd 3 hE v0 (cel l))(hk:∀h',Exh hE h'→k (S (bkR f t l)) h'):∀(n i:Nat){h:H}{v:AV},2*(l.length-i)<n→i≤l.length→Exh hE h→Cb TB 1 hE.next.nat h v (eb (bkR f t (l.take i)))→(r9 W1 k n).a1 f t v0 v (Int.ofNat i) h
 |0,_,_,_,hn,_,_,_=>absurd hn (Nat.not_lt_zero _)
 |n+1,i,h,v,hn,hi,hx,hb=>by
  refine Bel ?_
  unfold Atd
  have hr':=hr.ext hx
  rw[hr'.len,Dh,ilt]
  refine Br (fun e=>?_) (fun e=>?_)
  · have e:i<l.length:=of_decide_eq_true e
    have e':i<(cel l).length:=by rw[Dh];exact e
    obtain⟨m,rfl⟩:∃m,n=m+1:=⟨n-1,by omega⟩
    have hbl:=A2d f t (l.take i)
    rw[List.length_take] at hbl
    refine Dg (hr'.fld (j:=1) e' (by rw[Hs e];show 1<3;decide) ?_)
    simp only[Hs e,Abh,List.getElem_cons_succ,List.getElem_cons_zero]
    rw[Bj,Mn]
    refine Mc (b:=decide (Int.ofNat l[i].2.2≤t)) (fun k' hk'=>?_) ?_
    · refine Dg (hr'.fld (j:=2) e' (by rw[Hs e];show 2<3;decide) ?_)
      simp only[Hs e,Abh,List.getElem_cons_succ,List.getElem_cons_zero]
      rw[Bj,Mn];exact hk'
    refine Br (fun q=>?_) (fun q=>?_)
    · refine Dg (hr'.fld (j:=0) e' (by rw[Hs e];show 0<3;decide) ?_)
      simp only[Hs e,Abh,List.getElem_cons_zero]
      unfold ub
      rw[Bj]
      refine Ayf hb (by omega) hx.1 fun v' h' hb' hk'=>?_
      refine Bek ?_
      unfold Atc
      refine Bw (by omega) ?_
      exact Baw hr hk m (i+1) (by omega) e (hx.kp (Nat.le_refl _) hk') (by rw[Bjw e q];exact hb')
    · refine Bek ?_
      unfold Atc
      refine Bw (by omega) ?_
      exact Baw hr hk m (i+1) (by omega) e hx (by rw[Bjx e q];exact hb)
  · have e:i=l.length:=by have:=of_decide_eq_false e;omega
    subst e
    rw[List.take_length] at hb
    rw[Aqj hb,Ad]
    exact hk _ hx
end
theorem c9{s:List UInt8}{f t:Int}(hl:s.length≤1000000){h:H}{k:KV}(hk:∀h',Exh h h'→k (S (bkR f t (Dw s))) h'):W1 (.func 9) [S s,.int .i64 f,.int .i64 t] h k:=by
 have pb:=Aac s 0
 have sb:=Aj7 (Bt 0 s)
 have hsl:(Dw s).length≤1000000:=by unfold Dw;omega
 refine w9 (n:=2*(Dw s).length+1+1) Bg (g9 ?_)
 unfold Azt
 refine Bjl hl fun h1 v1 x1 b1=>?_
 refine Bjm (by omega) b1 fun h2 v2 x2 b2=>?_
 have x12:=x1.trans x2
 rcases b2.rd' with⟨rfl,e⟩|hr
 · have e:Dw s=[]:=by
    unfold Dw
    cases hq:Er (Bt 0 s) with
    |nil=>rfl
    |cons x l=>rw[hq] at e;exact absurd e (by unfold cel;simp)
   rw[e] at hk ⊢
   refine Bel ?_
   unfold Atd
   rw[Lh,ilt]
   refine Cp rfl ?_
   rw[Aqj (l:=[]) (lo:=0) (.inl ⟨rfl,rfl⟩),Ad]
   exact hk h2 x12
 · exact Baw (l:=Dw s) hsl hr (fun h' x=>hk h' (x12.trans x)) _ 0 (by omega) (Nat.zero_le _) .refl (.inl ⟨rfl,rfl⟩)
section
variable{l:List Rn}{f t:Int}(hl:l.length≤1000000)
include hl
end
end Go.Den
