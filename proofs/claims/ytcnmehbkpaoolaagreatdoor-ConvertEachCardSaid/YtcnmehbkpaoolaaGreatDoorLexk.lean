/-
 Proof.
-/
import Derived.Test.YtcnmehbkpaoolaaGreatDoorLex7
import Derived.Test.YtcnmehbkpaoolaaGreatDoorLexh
import Derived.Test.YtcnmehbkpaoolaaGreatDoorLexq
namespace Go.Den
open Go.RowKit
set_option maxRecDepth 100000
theorem Avl{s:List UInt8}{n:Nat}{b:Bool}(h:Go.Lx.Xn s=some (n,b)):0<n:=by
 unfold Go.Lx.Xn at h
 split at h
 · cases h
 · rename_i h0
   have h0:Go.Lx.at0 s 0=47:=by
    by_cases e:Go.Lx.at0 s 0=47
    · exact e
    · exact absurd e h0
   cases s with
   |nil=>exact absurd h0 (by decide)
   |cons x s=>
    have hx:x=47:=h0
    split at h
    · cases h
      rw[List.takeWhile_cons,if_pos (by rw[hx];decide)]
      simp
    · split at h
      · cases h
      · split at h
        · cases h;omega
        · cases h;simp
end Go.Den
namespace Go.Den
open Go.RowKit
set_option maxRecDepth 100000
open Go.Lx (Rn Is)
def Alr(r:Rn):List AV:=[ub r.1,.int .i64 (.ofNat r.2.1),.int .i64 (.ofNat r.2.2)]
def cel(l:List Rn):List (List AV):=l.map Alr
theorem Gq(l:List Rn):(cel l).length=l.length:=by unfold cel;rw[List.length_map]
theorem Kj{l:List Rn}{i:Nat}(h:i<l.length)(h':i<(cel l).length):(cel l)[i]=Alr l[i]:=List.getElem_map ..
theorem Akb{x y:Rn}{r:List Rn}:Is (x::y::r)=if x.1=92∧y.1=10 then Is r else x::Is (y::r):=by rw[Is]
theorem Arj{l:List Rn}{i:Nat}(h:i+1<l.length)(e:l[i].1=92)(e1:l[i+1].1=10):Is (l.drop i)=Is (l.drop (i+2)):=by
 rw[List.drop_eq_getElem_cons (show i<l.length by omega),List.drop_eq_getElem_cons h,Akb,if_pos ⟨e,e1⟩]
theorem Ax7{l:List Rn}{i:Nat}(h:i<l.length)(hs:¬(l[i].1=92∧∃h1:i+1<l.length,l[i+1].1=10)):Is (l.drop i)=l[i]::Is (l.drop (i+1)):=by
 rw[List.drop_eq_getElem_cons h]
 rcases Nat.lt_or_ge (i+1) l.length with h1|h1
 · rw[List.drop_eq_getElem_cons h1,Akb,if_neg (fun e=>hs ⟨e.1,h1,e.2⟩)]
 · rw[List.drop_eq_nil_of_le h1];rw[Is,Is]
theorem Agm {hE : H} {l : List Rn} {v0 : AV} {k : KV} (hl : l.length ≤ 1000000) (hr : Rd 3 hE v0 (cel l)) :
    ∀ (n i : Nat) (acc : List Rn) {h : H} {v : AV}, 2 * (l.length - i) < n → i ≤ l.length → acc.length ≤ i → Exh hE h → Cv 174 3 hE.next.nat h v (cel acc) →
    (∀ h' v', Exh hE h' → Cv 174 3 hE.next.nat h' v' (cel (acc ++ Is (l.drop i))) → k v' h') → (Zl W1 k n).a1 v0 v (Int.ofNat i) h
  | 0, _, _, _, _, hn, _, _, _, _, _ => absurd hn (Nat.not_lt_zero _)
  | n + 1, i, acc, h, v, hn, hi, ha, hx, hb, hk => by
    refine At3 ?_
    unfold Zd
    have hr' := hr.ext hx
    rw [hr'.len, Gq, ilt]
    refine Az (fun e => ?_) (fun e => ?_)
    · have e : i < l.length := of_decide_eq_true e
      have e' : i < (cel l).length := by rw [Gq]; exact e
      obtain ⟨m, rfl⟩ : ∃ m, n = m + 1 := ⟨n - 1, by omega⟩
      refine Zy (hr'.fld (j := 0) e' (by rw [Kj e]; exact Nat.zero_lt_succ _) ?_)
      simp only [Kj e, Alr, List.getElem_cons_zero]
      unfold ub
      rw [Au, Azl _ 92 (by decide)]
      refine Lb (b := decide (i + 1 < l.length)) (fun k' hk' => Fs (by omega) ?_) ?_
      · rw [hr'.len, Gq, ilt]; exact hk'
      have rest : ¬ (l[i].1 = 92 ∧ ∃ h1 : i + 1 < l.length, l[i + 1].1 = 10) → Ci (Int.ofNat i) fun m22 => Bz 3 m22 v0 fun v23 => ldn 3 v23 h fun v24 =>
          oK (Ao env 171 (fun e ei => Ak 1 [(0, v24)] h e ei)) fun v25 h26 => oK (Aq env .append [171, 171] [v, v25] h26) fun v27 h28 => (Zl W1 k (m + 1)).a2 v0 v27 (Int.ofNat i) h28 := fun hs => by
        refine Zy (hr'.all e' (by rw [Kj e]; rfl) ?_)
        rw [Kj e]
        unfold Alr
        refine Ao9 hb (by rw [Gq]; omega) hx.1 fun v' h' hb' hk' => ?_
        refine At2 ?_
        unfold Zc
        refine Fs (by omega) ?_
        have ec : cel (acc ++ [l[i]]) = cel acc ++ [[ub l[i].1, .int .i64 (.ofNat l[i].2.1), .int .i64 (.ofNat l[i].2.2)]] := by unfold cel; rw [List.map_append]; rfl
        refine Agm hl hr m (i + 1) (acc ++ [l[i]]) (by omega) e (by rw [List.length_append, List.length_singleton]; omega) (hx.kp (Nat.le_refl _) hk') (by rw [ec]; exact hb') fun h2 v2 a b => ?_
        rw [Ax7 e hs] at hk
        refine hk h2 v2 a ?_
        rw [List.append_assoc] at b; exact b
      refine Gi (fun e2 => ?_) (fun e2 => ?_)
      · simp only [Bool.and_eq_true, decide_eq_true_eq] at e2
        have e2' : i + 1 < (cel l).length := by rw [Gq]; exact e2.2
        refine Fs (by omega) (Zy (hr'.fld (j := 0) e2' (by rw [Kj e2.2]; exact Nat.zero_lt_succ _) ?_))
        simp only [Kj e2.2, Alr, List.getElem_cons_zero]
        unfold ub
        rw [Au, Azl _ 10 (by decide)]
        refine Az (fun e3 => ?_) (fun e3 => ?_)
        · have e3 : l[i + 1].1 = 10 := of_decide_eq_true e3
          refine Fs (by omega) ?_
          refine At2 ?_
          unfold Zc
          refine Fs (by omega) ?_
          rw [Arj e2.2 e2.1 e3] at hk
          exact Agm hl hr m (i + 2) acc (by omega) e2.2 (by omega) hx hb hk
        · exact rest fun hs => by
            obtain ⟨_, h1, h2⟩ := hs
            exact absurd h2 (of_decide_eq_false e3)
      · exact Bo rfl (rest fun hs => by
          obtain ⟨h0, h1, _⟩ := hs
          have h0 : l[i].1 = UInt8.ofNat 92 := h0
          rw [decide_eq_true h0, decide_eq_true h1] at e2; cases e2)
    · have e : ¬ i < l.length := of_decide_eq_false e
      rw [List.drop_eq_nil_of_le (by omega), show Is [] = [] by rw [Is], List.append_nil] at hk
      exact hk _ _ hx hb
end Go.Den
namespace Go.Den
open Go.RowKit
set_option maxRecDepth 100000
open Go.Lx (Rn Is Dh Jz tri Vp Adb bts)
def A3b(o:Option (UInt8×UInt8)):AV:=match o with
 |some p=>.tuple [ub p.2,.bool true]
 |none=>.tuple [.int .u8 (.ofNat 0),.bool false]
theorem Av3{c:UInt8}{k:KV}{h:H}:∀(n i:Nat),9-i<n→i≤9→k (A3b (((Vp.zip Adb).drop i).find? fun p=>p.1==c)) h→(Aht W1 k n).a1 (Int.ofNat c.toNat) (Int.ofNat i) h
 |0,_,hn,_,_=>absurd hn (Nat.not_lt_zero _)
 |n+1,i,hn,hi,hk=>by
  refine A4t ?_
  unfold Ady
  rw[ilt]
  refine Az (fun e=>?_) (fun e=>?_)
  · have e:i<9:=of_decide_eq_true e
    have e1:i<Vp.length:=e
    have e2:i<Adb.length:=e
    have e3:i<(Vp.zip Adb).length:=e
    rw[List.drop_eq_getElem_cons e3,List.find?_cons,List.getElem_zip] at hk
    rw[Ap]
    refine Cn (s:=Vp) e1 ?_
    rw[Oy]
    refine Az (fun ec=>?_) (fun ec=>?_)
    · have ec:Vp[i]=c:=of_decide_eq_true ec
      rw[show(Vp[i]==c)=true from beq_iff_eq.2 ec] at hk
      rw[Ap]
      refine Cn (s:=Adb) e2 ?_
      exact hk
    · have ec:¬Vp[i]=c:=of_decide_eq_false ec
      rw[show(Vp[i]==c)=false from beq_eq_false_iff_ne.2 ec] at hk
      rw[De,Cg (by omega),As]
      exact Av3 n (i+1) (by omega) (by omega) hk
  · have e:i=9:=by have:=of_decide_eq_false e;omega
    subst e
    exact hk
theorem Bly(c:UInt8):Pure PP G h0 181 [ub c] (A3b ((Vp.zip Adb).find? fun p=>p.1==c)):=by
 refine A9y (n:=11) Bl (Bj3 ?_)
 unfold Adz
 exact Av3 10 0 (by omega) (by omega) rfl
theorem Aha(c:UInt8):A3b ((Vp.zip Adb).find? fun p=>p.1==c)=(match tri c with|some d=>.tuple [ub d,.bool true]|none=>.tuple [.int .u8 (.ofNat 0),.bool false]):=by
 unfold tri
 cases(Vp.zip Adb).find? fun p=>p.1==c with
 |none=>rfl
 |some p=>rfl
theorem Apt{s:List UInt8}{i:Nat}(h:i<s.length)(hn:∀h2:i+2<s.length,s[i]=63→s[i+1]=63→tri s[i+2]=none):Dh i (s.drop i)=(s[i],i,i+1)::Dh (i+1) (s.drop (i+1)):=by
 rw[List.drop_eq_getElem_cons h]
 rcases Nat.lt_or_ge (i+1) s.length with h1|h1
 · rw[List.drop_eq_getElem_cons h1]
   rcases Nat.lt_or_ge (i+2) s.length with h2|h2
   · rw[List.drop_eq_getElem_cons h2,Dh]
     by_cases e:s[i]=63∧s[i+1]=63
     · rw[if_pos e,hn h2 e.1 e.2]
     · rw[if_neg e]
   · rw[List.drop_eq_nil_of_le (by omega),Dh,Dh]
 · rw[List.drop_eq_nil_of_le h1,Dh,Dh]
theorem Akq{s:List UInt8}{i:Nat}(h2:i+2<s.length)(e1:s[i]=63)(e2:s[i+1]=63){d:UInt8}(e3:tri s[i+2]=some d):Dh i (s.drop i)=(d,i,i+3)::Dh (i+3) (s.drop (i+3)):=by
 rw[List.drop_eq_getElem_cons (show i<s.length by omega),List.drop_eq_getElem_cons (show i+1<s.length by omega),List.drop_eq_getElem_cons h2,Dh,if_pos ⟨e1,e2⟩,e3]
theorem Bi9{h:H}{Q:(Bool→H→Prop)→Prop}{k:Bool→H→Prop}(hq:Q k):An (fun k1=>gate false false (Q k1) (k1 true h)) k:=hq
theorem Azk(x:UInt8)(n:Nat)(hn:n<256):Ba (Int.ofNat x.toNat) (Int.ofNat n)=decide (x=UInt8.ofNat n):=toNat_eq x n hn
section
variable{hE:H}{s:List UInt8}{k:KV}(hl:s.length≤1000000)
include hl
theorem A0l(n:Nat):∀(i:Nat)(acc:List Rn){h:H}{v:AV},2*(s.length-i)<n→i≤s.length→acc.length≤i→Exh hE h→Cv 174 3 hE.next.nat h v (cel acc)→
 (∀h' v',Exh hE h'→Cv 174 3 hE.next.nat h' v' (cel (acc++Dh i (s.drop i)))→k v' h')→(Zk W1 k n).a1 s.length (enc s) v (Int.ofNat i) h:=by
 induction n using Nat.strongRecOn with
 |_ n ih=>
  intro i acc h v hn hi ha hx hb hk
  obtain⟨n,rfl⟩:∃m,n=m+1:=⟨n-1,by omega⟩
  refine A49 ?_
  unfold Aew
  rw[ilt]
  refine Az (fun e=>?_) (fun e=>?_)
  · have e:i<s.length:=of_decide_eq_true e
    obtain⟨n,rfl⟩:∃m,n=m+1:=⟨n-1,by omega⟩
    have ec:∀(l:List Rn)(r:Rn),cel (l++[r])=cel l++[[ub r.1,.int .i64 (.ofNat r.2.1),.int .i64 (.ofNat r.2.2)]]:=fun l r=>by unfold cel;rw[List.map_append];rfl
    have one:∀h',(∀h2:i+2<s.length,s[i]=63→s[i+1]=63→tri s[i+2]=none)→h'=h→(Zk W1 k (n+1)).a2 s.length (enc s) v (Int.ofNat i) h':=fun h' hno e'=>by
     subst e'
     refine A48 ?_
     unfold Aev
     rw[Ap]
     refine Cn e ?_
     rw[De,Cg (by omega),As,Aux,Ae]
     refine Ao9 hb (by rw[Gq];omega) hx.1 fun v' h2 hb' hk'=>?_
     rw[As]
     refine ih n (by omega) (i+1) (acc++[(s[i],i,i+1)]) (by omega) e (by rw[List.length_append,List.length_singleton];omega) (hx.kp (Nat.le_refl _) hk') (by rw[ec];exact hb') fun h3 v3 a b=>?_
     refine hk h3 v3 a ?_
     rw[Apt e hno]
     rw[List.append_assoc] at b;exact b
    rw[De,Cg (by omega),As]
    refine Lb (b:=decide (s[i]=63)) (fun k' hk'=>?_) ?_
    · rw[Ap]
      refine Cn e ?_
      rw[Azk _ 63 (by decide)];exact hk'
    rw[ilt]
    refine Gi (fun e1=>?_) (fun e1=>?_)
    · rw[Bool.and_eq_true,decide_eq_true_eq,decide_eq_true_eq] at e1
      rw[De,Cg (by omega),As,Ap]
      refine Cn (show i+1<s.length by omega) ?_
      rw[Azk _ 63 (by decide)]
      refine Az (fun e2=>?_) (fun e2=>?_)
      · have e2:s[i+1]=63:=of_decide_eq_true e2
        rw[As,Ap]
        refine Cn e1.1 ?_
        refine Dz (Bly s[i+2]) ?_ rfl (by rw[Aha];cases tri s[i+2]<;>rfl)
        rw[Aha]
        cases ht:tri s[i+2] with
        |none=>
         show ext 0 (.tuple [.int .u8 (.ofNat 0),.bool false]) _
         rw[Ep,Au,Ez,Ce]
         exact Bo rfl (one _ (fun _ _ _=>ht) rfl)
        |some d=>
         show ext 0 (.tuple [ub d,.bool true]) _
         rw[Ep]
         unfold ub
         rw[Au,Ez,Ce]
         refine Cj rfl ?_
         rw[De,Cg (by omega),As,Aux,Ae]
         refine Ao9 hb (by rw[Gq];omega) hx.1 fun v' h2 hb' hk'=>?_
         rw[As]
         refine ih (n+1) (by omega) (i+3) (acc++[(d,i,i+3)]) (by omega) (by omega) (by rw[List.length_append,List.length_singleton];omega) (hx.kp (Nat.le_refl _) hk') (by rw[ec];exact hb') fun h3 v3 a b=>?_
         refine hk h3 v3 a ?_
         rw[Akq e1.1 e1.2 e2 ht]
         rw[List.append_assoc] at b;exact b
      · exact one _ (fun _ _ h'=>absurd h' (of_decide_eq_false e2)) rfl
    · exact Bo rfl (one _ (fun h2 h' _=>by rw[decide_eq_true h2,decide_eq_true h'] at e1;cases e1) rfl)
  · have e:¬i<s.length:=of_decide_eq_false e
    rw[List.drop_eq_nil_of_le (by omega),show Dh i []=[] by rw[Dh],List.append_nil] at hk
    exact hk _ _ hx hb
theorem A8v{h:H}(hk:∀h' v',Exh h h'→Cv 174 3 h.next.nat h' v' (cel (Dh 0 s))→k v' h'):W1 (.func 128) [S s] h k:=by
 refine Bag (n:=2*s.length+1+1) Bl (Bkl ?_)
 unfold Aex
 refine A0l hl (2*s.length+1) 0 [] (by omega) (Nat.zero_le _) (Nat.le_refl _) .refl (.inl ⟨rfl,rfl⟩) fun h' v' a b=>hk h' v' a b
end
theorem Tw:∀(s:List UInt8)(i:Nat),(Dh i s).length≤s.length∧∀x∈Dh i s,x.2.1≤i+s.length∧x.2.2≤i+s.length
 |[],i=>by rw[Dh];exact⟨Nat.le_refl _,fun x hx=>by cases hx⟩
 |[a],i=>by
  rw[Dh]
  refine⟨Nat.le_refl _,fun x hx=>?_⟩
  simp only[List.mem_singleton] at hx;subst hx
  simp
 |[a,b],i=>by
  rw[Dh]
  refine⟨Nat.le_refl _,fun x hx=>?_⟩
  simp only[List.mem_cons,List.not_mem_nil,or_false] at hx
  rcases hx with rfl|rfl
  · simp only[List.length_cons,List.length_nil];omega
  · simp
 |a::b::c::r,i=>by
  have h1:=Tw (b::c::r) (i+1)
  have h2:=Tw r (i+3)
  have g1:((a,i,i+1)::Dh (i+1) (b::c::r)).length≤(a::b::c::r).length∧∀x∈(a,i,i+1)::Dh (i+1) (b::c::r),x.2.1≤i+(a::b::c::r).length∧x.2.2≤i+(a::b::c::r).length:=by
   refine⟨by simp only[List.length_cons] at h1 ⊢;omega,fun x hx=>?_⟩
   rcases List.mem_cons.1 hx with rfl|hx
   · simp only[List.length_cons];omega
   · have:=h1.2 x hx
     simp only[List.length_cons] at this ⊢;omega
  rw[Dh]
  split
  · split
    · refine⟨by simp only[List.length_cons];omega,fun x hx=>?_⟩
      rcases List.mem_cons.1 hx with rfl|hx
      · simp only[List.length_cons];omega
      · have:=h2.2 x hx
        simp only[List.length_cons] at this ⊢;omega
    · exact g1
  · exact g1
theorem Ade:∀(l:List Rn),(Is l).length≤l.length∧∀x∈Is l,x∈l
 |[]=>by rw[Is];exact⟨Nat.le_refl _,fun x hx=>hx⟩
 |[x]=>by rw[Is];exact⟨Nat.le_refl _,fun x hx=>hx⟩
 |x::y::r=>by
  have h1:=Ade r
  have h2:=Ade (y::r)
  rw[Akb]
  split
  · exact⟨by simp only[List.length_cons];omega,fun z hz=>by simp[h1.2 z hz]⟩
  · refine⟨by simp only[List.length_cons] at h2 ⊢;omega,fun z hz=>?_⟩
    rcases List.mem_cons.1 hz with rfl|hz
    · simp
    · have:=h2.2 z hz;simp only[List.mem_cons] at this ⊢;exact .inr this
theorem Ayl{l:List Rn}(hb:∀x∈l,x.2.1≤1000001∧x.2.2≤1000001):Rns (cel l) (bts l):=by
 refine⟨by rw[Gq];unfold bts;rw[List.length_map],fun i hi hi'=>?_⟩
 have h1:i<l.length:=by rw[Gq] at hi';exact hi'
 obtain⟨b1,b2⟩:=hb _ (List.getElem_mem h1)
 refine⟨l[i].2.1,l[i].2.2,b1,b2,?_⟩
 rw[Kj h1]
 unfold Alr rn
 have:(bts l)[i]=l[i].1:=List.getElem_map ..
 rw[this]
theorem Cv.rd'{e:TypeId}{sz lo:Nat}{h:H}{v:AV}{L:List (List AV)}(hb:Cv e sz lo h v L):(v=.Ad∧L=[])∨Rd sz h v L:=by
 rcases hb with⟨a,b⟩|⟨q,t,m,z,w,rfl,_,h2,h3,h4,_,h6⟩
 · exact .inl ⟨a,b⟩
 · exact .inr (.row q 0 t m z e w false rfl h2 h3 (by omega) h6)
theorem A8w{l:List Rn}{lo:Nat}{v0:AV}{h:H}{k:KV}(hl:l.length≤1000000)(hb:Cv 174 3 lo h v0 (cel l))(hk:∀h' v',Exh h h'→Cv 174 3 h.next.nat h' v' (cel (Is l))→k v' h'):W1 (.func 127) [v0] h k:=by
 refine Bah (n:=2*l.length+1+1) Bl (Bkm ?_)
 unfold Aey
 rcases hb.rd' with⟨rfl,e⟩|hr
 · have:l=[]:=by cases l with
    |nil=>rfl
    |cons x l=>exact absurd e (by unfold cel;simp)
   subst this
   refine At3 ?_
   unfold Zd
   rw[Qz,ilt]
   exact Bo rfl (hk h .Ad .refl (.inl ⟨rfl,by rw[Is];rfl⟩))
 · exact Agm hl hr (2*l.length+1) 0 [] (by omega) (Nat.zero_le _) (Nat.le_refl _) .refl (.inl ⟨rfl,rfl⟩) fun h' v' a b=>hk h' v' a b
theorem Bi8{h:H}{Q:(Bool→H→Prop)→Prop}{k:Bool→H→Prop}(hk:k true h):An (fun k1=>gate false true (Q k1) (k1 true h)) k:=hk
theorem Bf6{s:List UInt8}{h:H}{k:KV}(hl:s.length≤999999)(hk:∀h' v',Exh h h'→Cv 174 3 h.next.nat h' v' (cel (Jz s))→k v' h'):W1 (.func 77) [S s] h k:=by
 refine w77 (n:=1) Bl (g77 ?_)
 unfold Amx
 have pb:=Tw s 0
 have sb:=Ade (Dh 0 s)
 refine A8v (by omega) fun h1 v1 x1 b1=>?_
 refine A8w (by omega) b1 fun h2 v2 x2 b2=>?_
 have x12:=x1.trans x2
 have b2:Cv 174 3 h.next.nat h2 v2 (cel (Is (Dh 0 s))):=by
  rcases b2 with⟨a,b⟩|⟨q,t,m,z,w,e1,e2,e3⟩
  · exact .inl ⟨a,b⟩
  · exact .inr ⟨q,t,m,z,w,e1,by have:=x1.1;omega,e3⟩
 unfold Jz at hk
 rw[ilt]
 by_cases hs:s=[]
 · subst hs
   rw[if_neg (fun e=>e.1 rfl)] at hk
   rw[show decide (0<([]:List UInt8).length)=false from rfl]
   refine Gi (fun e=>nomatch e) (fun _=>Bo rfl ?_)
   exact hk h2 v2 x12 b2
 have hpos:0<s.length:=List.length_pos_iff.2 hs
 rw[decide_eq_true hpos]
 generalize hL2:Is (Dh 0 s)=l2 at*
 refine Lb (b:=decide ((l2.getLast?.map (·.1))≠some 10)) (fun k' hk'=>?_) ?_
 · rw[b2.len,Gq,Ru]
   by_cases h0:l2=[]
   · subst h0
     exact Bi8 hk'
   · have hp:0<l2.length:=List.length_pos_iff.2 h0
     rw[decide_eq_false (show¬l2.length=0 by omega)]
     refine Bi9 ?_
     rw[b2.len,Gq,Wy hp,Cg (by omega),As,Ap]
     have hlt:l2.length-1<l2.length:=by omega
     have hlt':l2.length-1<(cel l2).length:=by rw[Gq];exact hlt
     refine(b2.rd (fun e=>h0 (by cases l2 with
      |nil=>rfl
      |cons x l=>exact absurd e (by unfold cel;simp)))).fld (j:=0) hlt' (by rw[Kj hlt];exact Nat.zero_lt_succ _) ?_
     simp only[Kj hlt,Alr,List.getElem_cons_zero]
     unfold ub
     rw[Au,Azk _ 10 (by decide),Br]
     have e2:(l2.getLast?.map (·.1))=some l2[l2.length-1].1:=by rw[List.getLast?_eq_getElem?,List.getElem?_eq_getElem hlt];rfl
     rw[e2] at hk'
     have e3:decide (some l2[l2.length-1].1≠some (10:UInt8))=!decide (l2[l2.length-1].1=UInt8.ofNat 10):=by
      by_cases e:l2[l2.length-1].1=10
      · rw[e];rfl
      · have e':¬l2[l2.length-1].1=UInt8.ofNat 10:=e
        rw[decide_eq_false e',decide_eq_true (show some l2[l2.length-1].1≠some (10:UInt8) from fun h'=>e (Option.some.inj h'))];rfl
     rw[e3] at hk'
     exact hk'
 · rw[Bool.true_and]
   by_cases he:(l2.getLast?.map (·.1))≠some 10
   · rw[if_pos ⟨hs,he⟩] at hk
     refine Cj (decide_eq_true he) ?_
     rw[Aux,Ae]
     refine Ao9 b2 (by rw[Gq];omega) x12.1 fun v' h' hb' hk'=>?_
     refine hk h' v' (x12.kp (Nat.le_refl _) hk') ?_
     unfold cel at hb' ⊢
     rw[List.map_append];exact hb'
   · rw[if_neg (fun e=>he e.2)] at hk
     exact Bo (decide_eq_false he) (hk h2 v2 x12 b2)
theorem Avn(s:List UInt8):(Jz s).length≤s.length+1∧∀x∈Jz s,x.2.1≤s.length∧x.2.2≤s.length:=by
 have pb:=Tw s 0
 have sb:=Ade (Dh 0 s)
 rw[Nat.zero_add] at pb
 unfold Jz
 split
 · refine⟨by rw[List.length_append,List.length_singleton];omega,fun x hx=>?_⟩
   rcases List.mem_append.1 hx with hx|hx
   · exact pb.2 x (sb.2 x hx)
   · simp only[List.mem_singleton] at hx;subst hx;simp
 · exact⟨by omega,fun x hx=>pb.2 x (sb.2 x hx)⟩
end Go.Den
