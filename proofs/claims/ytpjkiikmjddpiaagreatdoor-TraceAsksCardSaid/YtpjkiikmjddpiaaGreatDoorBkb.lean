/-
  A part of the proof: what of a text's characters stands between two places.
-/
import Derived.Test.YtpjkiikmjddpiaaGreatDoorBka
namespace Go.Den
open Go.RowKit
set_option maxRecDepth 100000
open Go.Lx (Rn splR plainR tri triF triT)
theorem natI_go{n:Nat}{K:Nat→Prop}(hk:K n):natI (Int.ofNat n) K:=by rw[natI_eq];exact hk
def triV(o:Option (UInt8×UInt8)):AV:=match o with
  |some p=>.tuple [ub p.2,.bool true]
  |none=>.tuple [.int .u8 (.ofNat 0),.bool false]
theorem c54_1{c:UInt8}{k:KV}{h:H}:∀(n i:Nat),9-i<n→i≤9→k (triV (((triF.zip triT).drop i).find? fun p=>p.1==c)) h→(r54 W1 k n).a1 (Int.ofNat c.toNat) (Int.ofNat i) h
  |0,_,hn,_,_=>absurd hn (Nat.not_lt_zero _)
  |n+1,i,hn,hi,hk=>by
    refine j54_1 ?_
    unfold s54_1
    rw[ilt]
    refine cnd_i (fun e=>?_) (fun e=>?_)
    · have e:i<9:=of_decide_eq_true e
      have e1:i<triF.length:=e
      have e2:i<triT.length:=e
      have e3:i<(triF.zip triT).length:=e
      rw[List.drop_eq_getElem_cons e3,List.find?_cons,List.getElem_zip] at hk
      rw[natI_eq]
      refine idxS_i (s:=triF) e1 ?_
      rw[ieqB]
      refine cnd_i (fun ec=>?_) (fun ec=>?_)
      · have ec:triF[i]=c:=of_decide_eq_true ec
        rw[show(triF[i]==c)=true from beq_iff_eq.2 ec] at hk
        rw[natI_eq]
        refine idxS_i (s:=triT) e2 ?_
        exact hk
      · have ec:¬triF[i]=c:=of_decide_eq_false ec
        rw[show(triF[i]==c)=false from beq_eq_false_iff_ne.2 ec] at hk
        rw[iaddN,wrapN (by omega),fI_eq]
        exact c54_1 n (i+1) (by omega) (by omega) hk
    · have e:i=9:=by have:=of_decide_eq_false e;omega
      subst e
      exact hk
theorem c54(c:UInt8):Pure PP G h0 54 [ub c] (triV ((triF.zip triT).find? fun p=>p.1==c)):=by
  refine w54 (n:=11) sw_ok (g54 ?_)
  unfold s54_0
  exact c54_1 10 0 (by omega) (by omega) rfl
theorem triV_tri(c:UInt8):triV ((triF.zip triT).find? fun p=>p.1==c)=(match tri c with|some d=>.tuple [ub d,.bool true]|none=>.tuple [.int .u8 (.ofNat 0),.bool false]):=by
  unfold tri
  cases(triF.zip triT).find? fun p=>p.1==c with
  |none=>rfl
  |some p=>rfl
theorem or_f{h:H}{Q:(Bool→H→Prop)→Prop}{k:Bool→H→Prop}(hq:Q k):joinB (fun k1=>gate false false (Q k1) (k1 true h)) k:=hq
section
variable{hE:H}{s:List UInt8}{k:KV}(hl:s.length≤1000000)
include hl
theorem c30_g1(n:Nat):∀(i:Nat)(acc:List Rn){h:H}{v:AV},2*(s.length-i)<n→i≤s.length→acc.length≤i→Exh hE h→BufN 81 3 hE.next.nat h v (cel acc)→
    (∀h' v',Exh hE h'→BufN 81 3 hE.next.nat h' v' (cel (acc++plainR i (s.drop i)))→k v' h')→(r30 W1 k n).a1 s.length (enc s) v (Int.ofNat i) h:=by
  induction n using Nat.strongRecOn with
  |_ n ih=>
    intro i acc h v hn hi ha hx hb hk
    obtain⟨n,rfl⟩:∃m,n=m+1:=⟨n-1,by omega⟩
    refine j30_1 ?_
    unfold s30_1
    rw[ilt]
    refine cnd_i (fun e=>?_) (fun e=>?_)
    · have e:i<s.length:=of_decide_eq_true e
      obtain⟨n,rfl⟩:∃m,n=m+1:=⟨n-1,by omega⟩
      have ec:∀(l:List Rn)(r:Rn),cel (l++[r])=cel l++[[ub r.1,.int .i64 (.ofNat r.2.1),.int .i64 (.ofNat r.2.2)]]:=fun l r=>by unfold cel;rw[List.map_append];rfl
      have one:∀h',(∀h2:i+2<s.length,s[i]=63→s[i+1]=63→tri s[i+2]=none)→h'=h→(r30 W1 k (n+1)).a2 s.length (enc s) v (Int.ofNat i) h':=fun h' hno e'=>by
        subst e'
        refine j30_2 ?_
        unfold s30_2
        rw[natI_eq]
        refine idxS_i e ?_
        rw[iaddN,wrapN (by omega),fI_eq,exB69,oK_some]
        refine app69 hb (by rw[cel_len];omega) hx.1 fun v' h2 hb' hk'=>?_
        rw[fI_eq]
        refine ih n (by omega) (i+1) (acc++[(s[i],i,i+1)]) (by omega) e (by rw[List.length_append,List.length_singleton];omega) (hx.kp (Nat.le_refl _) hk') (by rw[ec];exact hb') fun h3 v3 a b=>?_
        refine hk h3 v3 a ?_
        rw[plainR_go e hno]
        rw[List.append_assoc] at b;exact b
      rw[iaddN,wrapN (by omega),fI_eq]
      refine and_q (b:=decide (s[i]=63)) (fun k' hk'=>?_) ?_
      · rw[natI_eq]
        refine idxS_i e ?_
        rw[ieqc _ 63 (by decide)];exact hk'
      rw[ilt]
      refine and_i (fun e1=>?_) (fun e1=>?_)
      · rw[Bool.and_eq_true,decide_eq_true_eq,decide_eq_true_eq] at e1
        rw[iaddN,wrapN (by omega),fI_eq,natI_eq]
        refine idxS_i (show i+1<s.length by omega) ?_
        rw[ieqc _ 63 (by decide)]
        refine cnd_i (fun e2=>?_) (fun e2=>?_)
        · have e2:s[i+1]=63:=of_decide_eq_true e2
          rw[fI_eq,natI_eq]
          refine idxS_i e1.1 ?_
          refine use2 (c54 s[i+2]) ?_ rfl (by rw[triV_tri];cases tri s[i+2]<;>rfl)
          rw[triV_tri]
          cases ht:tri s[i+2] with
          |none=>
            show ext 0 (.tuple [.int .u8 (.ofNat 0),.bool false]) _
            rw[ext_0,asI_k,ext_1,asB_b]
            exact cnd_f rfl (one _ (fun _ _ _=>ht) rfl)
          |some d=>
            show ext 0 (.tuple [ub d,.bool true]) _
            rw[ext_0]
            unfold ub
            rw[asI_k,ext_1,asB_b]
            refine cnd_t rfl ?_
            rw[iaddN,wrapN (by omega),fI_eq,exB69,oK_some]
            refine app69 hb (by rw[cel_len];omega) hx.1 fun v' h2 hb' hk'=>?_
            rw[fI_eq]
            refine ih (n+1) (by omega) (i+3) (acc++[(d,i,i+3)]) (by omega) (by omega) (by rw[List.length_append,List.length_singleton];omega) (hx.kp (Nat.le_refl _) hk') (by rw[ec];exact hb') fun h3 v3 a b=>?_
            refine hk h3 v3 a ?_
            rw[plainR_tri e1.1 e1.2 e2 ht]
            rw[List.append_assoc] at b;exact b
        · exact one _ (fun _ _ h'=>absurd h' (of_decide_eq_false e2)) rfl
      · exact cnd_f rfl (one _ (fun h2 h' _=>by rw[decide_eq_true h2,decide_eq_true h'] at e1;cases e1) rfl)
    · have e:¬i<s.length:=of_decide_eq_false e
      rw[List.drop_eq_nil_of_le (by omega),show plainR i []=[] by rw[plainR],List.append_nil] at hk
      exact hk _ _ hx hb
theorem c30_g{h:H}(hk:∀h' v',Exh h h'→BufN 81 3 h.next.nat h' v' (cel (plainR 0 s))→k v' h'):W1 (.func 30) [S s] h k:=by
  refine w30 (n:=2*s.length+1+1) sw_ok (g30 ?_)
  unfold s30_0
  refine c30_g1 hl (2*s.length+1) 0 [] (by omega) (Nat.zero_le _) (Nat.le_refl _) .refl (.inl ⟨rfl,rfl⟩) fun h' v' a b=>hk h' v' a b
end
theorem plainR_b:∀(s:List UInt8)(i:Nat),(plainR i s).length≤s.length∧∀x∈plainR i s,x.2.1≤i+s.length∧x.2.2≤i+s.length
  |[],i=>by rw[plainR];exact⟨Nat.le_refl _,fun x hx=>by cases hx⟩
  |[a],i=>by
    rw[plainR]
    refine⟨Nat.le_refl _,fun x hx=>?_⟩
    simp only[List.mem_singleton] at hx;subst hx
    simp
  |[a,b],i=>by
    rw[plainR]
    refine⟨Nat.le_refl _,fun x hx=>?_⟩
    simp only[List.mem_cons,List.not_mem_nil,or_false] at hx
    rcases hx with rfl|rfl
    · simp only[List.length_cons,List.length_nil];omega
    · simp
  |a::b::c::r,i=>by
    have h1:=plainR_b (b::c::r) (i+1)
    have h2:=plainR_b r (i+3)
    have g1:((a,i,i+1)::plainR (i+1) (b::c::r)).length≤(a::b::c::r).length∧∀x∈(a,i,i+1)::plainR (i+1) (b::c::r),x.2.1≤i+(a::b::c::r).length∧x.2.2≤i+(a::b::c::r).length:=by
      refine⟨by simp only[List.length_cons] at h1 ⊢;omega,fun x hx=>?_⟩
      rcases List.mem_cons.1 hx with rfl|hx
      · simp only[List.length_cons];omega
      · have:=h1.2 x hx
        simp only[List.length_cons] at this ⊢;omega
    rw[plainR]
    split
    · split
      · refine⟨by simp only[List.length_cons];omega,fun x hx=>?_⟩
        rcases List.mem_cons.1 hx with rfl|hx
        · simp only[List.length_cons];omega
        · have:=h2.2 x hx
          simp only[List.length_cons] at this ⊢;omega
      · exact g1
    · exact g1
theorem splR_b:∀(l:List Rn),(splR l).length≤l.length∧∀x∈splR l,x∈l
  |[]=>by rw[splR];exact⟨Nat.le_refl _,fun x hx=>hx⟩
  |[x]=>by rw[splR];exact⟨Nat.le_refl _,fun x hx=>hx⟩
  |x::y::r=>by
    have h1:=splR_b r
    have h2:=splR_b (y::r)
    rw[splR_2]
    split
    · exact⟨by simp only[List.length_cons];omega,fun z hz=>by simp[h1.2 z hz]⟩
    · refine⟨by simp only[List.length_cons] at h2 ⊢;omega,fun z hz=>?_⟩
      rcases List.mem_cons.1 hz with rfl|hz
      · simp
      · have:=h2.2 z hz;simp only[List.mem_cons] at this ⊢;exact .inr this
theorem splR_cut{l:List Rn}{i:Nat}(h:i+1<l.length)(e:l[i].1=92)(e1:l[i+1].1=10):splR (l.drop i)=splR (l.drop (i+2)):=by
  rw[List.drop_eq_getElem_cons (show i<l.length by omega),List.drop_eq_getElem_cons h,splR_2,if_pos ⟨e,e1⟩]
theorem splR_go{l:List Rn}{i:Nat}(h:i<l.length)(hs:¬(l[i].1=92∧∃h1:i+1<l.length,l[i+1].1=10)):splR (l.drop i)=l[i]::splR (l.drop (i+1)):=by
  rw[List.drop_eq_getElem_cons h]
  rcases Nat.lt_or_ge (i+1) l.length with h1|h1
  · rw[List.drop_eq_getElem_cons h1,splR_2,if_neg (fun e=>hs ⟨e.1,h1,e.2⟩)]
  · rw[List.drop_eq_nil_of_le h1];rw[splR,splR]
theorem c29_g1 {hE : H} {l : List Rn} {v0 : AV} {k : KV} (hl : l.length ≤ 1000000) (hr : Rd 3 hE v0 (cel l)) :
    ∀ (n i : Nat) (acc : List Rn) {h : H} {v : AV}, 2 * (l.length - i) < n → i ≤ l.length → acc.length ≤ i → Exh hE h → BufN 81 3 hE.next.nat h v (cel acc) →
    (∀ h' v', Exh hE h' → BufN 81 3 hE.next.nat h' v' (cel (acc ++ splR (l.drop i))) → k v' h') → (r29 W1 k n).a1 v0 v (Int.ofNat i) h
  | 0, _, _, _, _, hn, _, _, _, _, _ => absurd hn (Nat.not_lt_zero _)
  | n + 1, i, acc, h, v, hn, hi, ha, hx, hb, hk => by
    refine j29_1 ?_
    unfold s29_1
    have hr' := hr.ext hx
    rw [hr'.len, cel_len, ilt]
    refine cnd_i (fun e => ?_) (fun e => ?_)
    · have e : i < l.length := of_decide_eq_true e
      have e' : i < (cel l).length := by rw [cel_len]; exact e
      obtain ⟨m, rfl⟩ : ∃ m, n = m + 1 := ⟨n - 1, by omega⟩
      refine natI_i (hr'.fld (j := 0) e' (by rw [cel_get e]; exact Nat.zero_lt_succ _) ?_)
      simp only [cel_get e, cel1, List.getElem_cons_zero]
      unfold ub
      rw [asI_k, ieqc _ 92 (by decide)]
      refine and_q (b := decide (i + 1 < l.length)) (fun k' hk' => fIadd (by omega) ?_) ?_
      · rw [hr'.len, cel_len, ilt]; exact hk'
      have rest : ¬ (l[i].1 = 92 ∧ ∃ h1 : i + 1 < l.length, l[i + 1].1 = 10) → natI (Int.ofNat i) fun m22 => elemA 3 m22 v0 fun v23 => ldn 3 v23 h fun v24 =>
          oK (withElem env 76 (fun e ei => exBuildSlice 1 [(0, v24)] h e ei)) fun v25 h26 => oK (builtinA env .append [76, 76] [v, v25] h26) fun v27 h28 => (r29 W1 k (m + 1)).a2 v0 v27 (Int.ofNat i) h28 := fun hs => by
        refine natI_i (hr'.all e' (by rw [cel_get e]; rfl) ?_)
        rw [cel_get e]
        unfold cel1
        refine app69 hb (by rw [cel_len]; omega) hx.1 fun v' h' hb' hk' => ?_
        refine j29_2 ?_
        unfold s29_2
        refine fIadd (by omega) ?_
        have ec : cel (acc ++ [l[i]]) = cel acc ++ [[ub l[i].1, .int .i64 (.ofNat l[i].2.1), .int .i64 (.ofNat l[i].2.2)]] := by unfold cel; rw [List.map_append]; rfl
        refine c29_g1 hl hr m (i + 1) (acc ++ [l[i]]) (by omega) e (by rw [List.length_append, List.length_singleton]; omega) (hx.kp (Nat.le_refl _) hk') (by rw [ec]; exact hb') fun h2 v2 a b => ?_
        rw [splR_go e hs] at hk
        refine hk h2 v2 a ?_
        rw [List.append_assoc] at b; exact b
      refine and_i (fun e2 => ?_) (fun e2 => ?_)
      · simp only [Bool.and_eq_true, decide_eq_true_eq] at e2
        have e2' : i + 1 < (cel l).length := by rw [cel_len]; exact e2.2
        refine fIadd (by omega) (natI_i (hr'.fld (j := 0) e2' (by rw [cel_get e2.2]; exact Nat.zero_lt_succ _) ?_))
        simp only [cel_get e2.2, cel1, List.getElem_cons_zero]
        unfold ub
        rw [asI_k, ieqc _ 10 (by decide)]
        refine cnd_i (fun e3 => ?_) (fun e3 => ?_)
        · have e3 : l[i + 1].1 = 10 := of_decide_eq_true e3
          refine fIadd (by omega) ?_
          refine j29_2 ?_
          unfold s29_2
          refine fIadd (by omega) ?_
          rw [splR_cut e2.2 e2.1 e3] at hk
          exact c29_g1 hl hr m (i + 2) acc (by omega) e2.2 (by omega) hx hb hk
        · exact rest fun hs => by
            obtain ⟨_, h1, h2⟩ := hs
            exact absurd h2 (of_decide_eq_false e3)
      · exact cnd_f rfl (rest fun hs => by
          obtain ⟨h0, h1, _⟩ := hs
          have h0 : l[i].1 = UInt8.ofNat 92 := h0
          rw [decide_eq_true h0, decide_eq_true h1] at e2; cases e2)
    · have e : ¬ i < l.length := of_decide_eq_false e
      rw [List.drop_eq_nil_of_le (by omega), show splR [] = [] by rw [splR], List.append_nil] at hk
      exact hk _ _ hx hb
theorem BufN.rd'{e:TypeId}{sz lo:Nat}{h:H}{v:AV}{L:List (List AV)}(hb:BufN e sz lo h v L):(v=.nils∧L=[])∨Rd sz h v L:=by
  rcases hb with⟨a,b⟩|⟨q,t,m,z,w,rfl,_,h2,h3,h4,_,h6⟩
  · exact .inl ⟨a,b⟩
  · exact .inr (.row q 0 t m z e w false rfl h2 h3 (by omega) h6)
theorem c29_g{l:List Rn}{lo:Nat}{v0:AV}{h:H}{k:KV}(hl:l.length≤1000000)(hb:BufN 81 3 lo h v0 (cel l))(hk:∀h' v',Exh h h'→BufN 81 3 h.next.nat h' v' (cel (splR l))→k v' h'):W1 (.func 29) [v0] h k:=by
  refine w29 (n:=2*l.length+1+1) sw_ok (g29 ?_)
  unfold s29_0
  rcases hb.rd' with⟨rfl,e⟩|hr
  · have:l=[]:=by cases l with
      |nil=>rfl
      |cons x l=>exact absurd e (by unfold cel;simp)
    subst this
    refine j29_1 ?_
    unfold s29_1
    rw[lenV_nils,ilt]
    exact cnd_f rfl (hk h .nils .refl (.inl ⟨rfl,by rw[splR];rfl⟩))
  · exact c29_g1 hl hr (2*l.length+1) 0 [] (by omega) (Nat.zero_le _) (Nat.le_refl _) .refl (.inl ⟨rfl,rfl⟩) fun h' v' a b=>hk h' v' a b
/-! ### Between two places -/
def inR(f t:Int)(r:Rn):Bool:=decide (f≤Int.ofNat r.2.1)&&decide (Int.ofNat r.2.2≤t)
def bkR(f t:Int)(l:List Rn):List UInt8:=(l.filter (inR f t)).map (·.1)
theorem bkR_t{f t:Int}{l:List Rn}{i:Nat}(h:i<l.length)(hc:inR f t l[i]=true):bkR f t (l.take (i+1))=bkR f t (l.take i)++[l[i].1]:=by
  unfold bkR
  rw[List.take_succ_eq_append_getElem h,List.filter_append,List.map_append,List.filter_cons_of_pos hc];rfl
theorem bkR_f{f t:Int}{l:List Rn}{i:Nat}(h:i<l.length)(hc:inR f t l[i]=false):bkR f t (l.take (i+1))=bkR f t (l.take i):=by
  unfold bkR
  rw[List.take_succ_eq_append_getElem h,List.filter_append,List.map_append,List.filter_cons_of_neg (by rw[hc];decide)];simp
theorem bkR_len(f t:Int)(l:List Rn):(bkR f t l).length≤l.length:=by
  unfold bkR
  rw[List.length_map];exact List.length_filter_le _ _
section
variable{l:List Rn}{f t:Int}(hl:l.length≤1000000)
include hl
theorem c17_1{hE:H}{v0:AV}{k:KV}(hr:Rd 3 hE v0 (cel l))(hk:∀h',Exh hE h'→k (S (bkR f t l)) h'):∀(n i:Nat){h:H}{v:AV},2*(l.length-i)<n→i≤l.length→Exh hE h→BufN TB 1 hE.next.nat h v (eb (bkR f t (l.take i)))→(r17 W1 k n).a1 f t v0 v (Int.ofNat i) h
  |0,_,_,_,hn,_,_,_=>absurd hn (Nat.not_lt_zero _)
  |n+1,i,h,v,hn,hi,hx,hb=>by
    refine j17_1 ?_
    unfold s17_1
    have hr':=hr.ext hx
    rw[hr'.len,cel_len,ilt]
    refine cnd_i (fun e=>?_) (fun e=>?_)
    · have e:i<l.length:=of_decide_eq_true e
      have e':i<(cel l).length:=by rw[cel_len];exact e
      obtain⟨m,rfl⟩:∃m,n=m+1:=⟨n-1,by omega⟩
      have hbl:=bkR_len f t (l.take i)
      rw[List.length_take] at hbl
      refine natI_go (hr'.fld (j:=1) e' (by rw[cel_get e];show 1<3;decide) ?_)
      simp only[cel_get e,cel1,List.getElem_cons_succ,List.getElem_cons_zero]
      rw[asI_k,ible_eq]
      refine and_q (b:=decide (Int.ofNat l[i].2.2≤t)) (fun k' hk'=>?_) ?_
      · refine natI_go (hr'.fld (j:=2) e' (by rw[cel_get e];show 2<3;decide) ?_)
        simp only[cel_get e,cel1,List.getElem_cons_succ,List.getElem_cons_zero]
        rw[asI_k,ible_eq];exact hk'
      refine cnd_i (fun q=>?_) (fun q=>?_)
      · refine natI_go (hr'.fld (j:=0) e' (by rw[cel_get e];show 0<3;decide) ?_)
        simp only[cel_get e,cel1,List.getElem_cons_zero]
        unfold ub
        rw[asI_k]
        refine app_byte hb (by omega) hx.1 fun v' h' hb' hk'=>?_
        refine j17_2 ?_
        unfold s17_2
        refine fIadd (by omega) ?_
        exact c17_1 hr hk m (i+1) (by omega) e (hx.kp (Nat.le_refl _) hk') (by rw[bkR_t e q];exact hb')
      · refine j17_2 ?_
        unfold s17_2
        refine fIadd (by omega) ?_
        exact c17_1 hr hk m (i+1) (by omega) e hx (by rw[bkR_f e q];exact hb)
    · have e:i=l.length:=by have:=of_decide_eq_false e;omega
      subst e
      rw[List.take_length] at hb
      rw[conv_eb hb,oK_some]
      exact hk _ hx
end
/-- what stands between two places: the document's -/
theorem c17{s:List UInt8}{f t:Int}(hl:s.length≤1000000){h:H}{k:KV}(hk:∀h',Exh h h'→k (S (bkR f t (standR s))) h'):W1 (.func 17) [S s,.int .i64 f,.int .i64 t] h k:=by
  have pb:=plainR_b s 0
  have sb:=splR_b (plainR 0 s)
  have hsl:(standR s).length≤1000000:=by unfold standR;omega
  refine w17 (n:=2*(standR s).length+1+1) sw_ok (g17 ?_)
  unfold s17_0
  refine c30_g hl fun h1 v1 x1 b1=>?_
  refine c29_g (by omega) b1 fun h2 v2 x2 b2=>?_
  have x12:=x1.trans x2
  rcases b2.rd' with⟨rfl,e⟩|hr
  · have e:standR s=[]:=by
      unfold standR
      cases hq:splR (plainR 0 s) with
      |nil=>rfl
      |cons x l=>rw[hq] at e;exact absurd e (by unfold cel;simp)
    rw[e] at hk ⊢
    refine j17_1 ?_
    unfold s17_1
    rw[lenV_nils,ilt]
    refine cnd_f rfl ?_
    rw[conv_eb (l:=[]) (lo:=0) (.inl ⟨rfl,rfl⟩),oK_some]
    exact hk h2 x12
  · exact c17_1 (l:=standR s) hsl hr (fun h' x=>hk h' (x12.trans x)) _ 0 (by omega) (Nat.zero_le _) .refl (.inl ⟨rfl,rfl⟩)
/-! ### The program's -/
section
variable{l:List Rn}{f t:Int}(hl:l.length≤1000000)
include hl
theorem c42_1 {hE : H} {b : P} {v0 : AV} {k : KV} (hr : l = [] ∨ Rd 3 hE v0 (cel l)) (hq : ∀ o n z w, v0 ≠ .slice b o n z w) (hbE : b.nat < hE.next.nat) (hk : ∀ h', hE.next.nat ≤ h'.next.nat → (∀ c, c.nat < hE.next.nat → c ≠ b → h'.at c = hE.at c) → k (S (bkR f t l)) h') :
    ∀ (n i : Nat) {h : H}, l.length - i < n → i ≤ l.length → hE.next.nat ≤ h.next.nat → (∀ c, c.nat < hE.next.nat → c ≠ b → h.at c = hE.at c) → BldN hE.next.nat h b (bkR f t (l.take i)) → (r42 W1 k n).a1 f t (.ptr b 0) v0 (Int.ofNat l.length) (Int.ofNat i) h
  | 0, _, _, hn, _, _, _, _ => absurd hn (Nat.not_lt_zero _)
  | n + 1, i, h, hn, hi, hx, hf, hb => by
    refine j42_1 ?_
    unfold s42_1
    have hbl := bkR_len f t (l.take i)
    rw [List.length_take] at hbl
    rw [ilt]
    refine cnd_i (fun e => ?_) (fun e => ?_)
    · have e : i < l.length := of_decide_eq_true e
      have e' : i < (cel l).length := by rw [cel_len]; exact e
      have hr : Rd 3 hE v0 (cel l) := hr.resolve_left fun q => by rw [q] at e; cases e
      have hr' : Rd 3 h v0 (cel l) := hr.frame hx fun c hc o n z w q => hf c hc fun e' => by
        subst e'
        exact hq _ _ _ _ q
      refine natI_go (hr'.all e' (by rw [cel_get e]; rfl) ?_)
      rw [cel_get e]
      refine newK_i ?_
      unfold ob163
      refine new_cp rfl rfl (by decide) fun h2 x2 hn2 ha2 => ?_
      have hf2 : ∀ c, c.nat < hE.next.nat → c ≠ b → h2.at c = hE.at c := fun c hc hcb => by rw [x2.2 c (by omega), hf c hc hcb]
      have hx2 : hE.next.nat ≤ h2.next.nat := by have := x2.1; omega
      have hb2 := hb.ext x2
      rw [fAddr_i]
      refine ha2.ld1 (j := 1) (by show 1 < 3; decide) ?_
      show asI .i64 (.int .i64 (.ofNat l[i].2.1)) _
      rw [asI_k, ible_eq]
      refine and_q (b := decide (Int.ofNat l[i].2.2 ≤ t)) (fun k' hk' => ?_) ?_
      · rw [fAddr_i]
        refine ha2.ld1 (j := 2) (by show 2 < 3; decide) ?_
        show asI .i64 (.int .i64 (.ofNat l[i].2.2)) _
        rw [asI_k, ible_eq]; exact hk'
      refine cnd_i (fun q => ?_) (fun q => ?_)
      · rw [fAddr_i]
        refine ha2.ld1 (j := 0) (by show 0 < 3; decide) ?_
        show asI .u8 (.int .u8 (Int.ofNat l[i].1.toNat)) _
        rw [asI_k]
        refine c65N hb2 hx2 (by omega) fun v3 h3 hb3 fr3 => ?_
        refine fIadd (by omega) ?_
        refine c42_1 (.inr hr) hq hbE hk n (i + 1) (by omega) e (by have := fr3.1; omega) (fun c hc hcb => ?_) (by rw [bkR_t e q]; exact hb3)
        rw [fr3.2 c (by omega) hcb (.inl hc), hf2 c hc hcb]
      · refine fIadd (by omega) ?_
        exact c42_1 (.inr hr) hq hbE hk n (i + 1) (by omega) e hx2 hf2 (by rw [bkR_f e q]; exact hb2)
    · have e : i = l.length := by have := of_decide_eq_false e; omega
      subst e
      rw [List.take_length] at hb
      refine c66N hb (by rw [List.take_length] at hbl; omega) fun h' x => ?_
      rw [asS_s]
      exact hk h' (by have := x.1; omega) fun c hc hcb => by rw [x.2 c (by omega) (.inl hc), hf c hc hcb]
end
/-- what stands between two places: the program's -/
theorem c42{s:List UInt8}{f t:Int}(hl:s.length≤1000000){h:H}{k:KV}(hk:∀h',Exh h h'→k (S (bkR f t (standR s))) h'):W1 (.func 42) [S s,.int .i64 f,.int .i64 t] h k:=by
  have pb:=plainR_b s 0
  have sb:=splR_b (plainR 0 s)
  have hsl:(standR s).length≤1000000:=by unfold standR;omega
  refine w42 (n:=(standR s).length+1+1) sw_ok (g42 ?_)
  unfold s42_0
  refine newK_i ?_
  refine c64 hl fun h4 v4 x4 b4=>?_
  have x0:Exh h (h.new ob160):=.new
  have hlt:h.next.nat<(h.new ob160).next.nat:=by rw[next_new];omega
  have hbld:BldN h4.next.nat h4 h.next []:=(BldN.new h4.next.nat h).ext x4
  rw[b4.len,cel_len]
  refine c42_1 (l:=standR s) hsl (b4.rd'.imp (fun q=>?_) id) (fun o n z w e=>?_) (by have:=x4.1;omega) (fun h' hn' hf'=>hk h' ⟨by have:=x4.1;omega,fun c hc=>?_⟩) _ 0 (by omega) (Nat.zero_le _) (Nat.le_refl _) (fun _ _ _=>rfl) hbld
  · cases hq:standR s with
    |nil=>rfl
    |cons x l=>rw[hq] at q;exact absurd q.2 (by unfold cel;simp)
  · rcases b4 with⟨e1,_⟩|⟨q,t1,m,z1,w1,e1,h1,_⟩
    · rw[e1] at e;cases e
    · rw[e1] at e;cases e;omega
  · rw[hf' c (by have:=x4.1;omega) (fun e=>by subst e;omega),x4.2 c (by omega),at_new_o hc]
end Go.Den
