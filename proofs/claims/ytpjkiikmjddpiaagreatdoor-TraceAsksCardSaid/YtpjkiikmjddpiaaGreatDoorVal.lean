/-
  A part of the proof: what a path is: its parts; the document's answer.
-/
import Derived.Test.YtpjkiikmjddpiaaGreatDoorTad
namespace Go.Den
open Go.RowKit
set_option maxRecDepth 100000
/-! ### Plain -/
def namedB(x:UInt8):Bool:=(((((decide (97≤x.toNat)&&decide (x.toNat≤122))||(decide (65≤x.toNat)&&decide (x.toNat≤90)))||(decide (48≤x.toNat)&&decide (x.toNat≤57)))||decide (x.toNat=46))||decide (x.toNat=45))||decide (x.toNat=95)
def sizeB(s:List UInt8):Bool:=((!decide (s=[])&&decide (s.length≤20))&&!decide (s=[46]))&&!decide (s=[46,46])
def partB(s:List UInt8):Bool:=sizeB s&&s.all namedB
def partsA:List UInt8→List UInt8→List (List UInt8)
  |acc,[]=>[acc]
  |acc,c::r=>if c=47 then acc::partsA [] r else partsA (acc++[c]) r
def parts(s:List UInt8):List (List UInt8):=partsA [] s
def valB(s:List UInt8):Bool:=decide (s.length≤80)&&(parts s).all partB
theorem partsA_len:∀(r acc:List UInt8),(partsA acc r).length≤r.length+1
  |[],_=>Nat.le_refl _
  |c::r,acc=>by
    unfold partsA
    split
    · have:=partsA_len r []
      simp only[List.length_cons];omega
    · have:=partsA_len r (acc++[c])
      simp only[List.length_cons];omega
theorem namedN(x:UInt8):namedB x=((((((ible (Int.ofNat 97) (Int.ofNat x.toNat)&&ible (Int.ofNat x.toNat) (Int.ofNat 122))||(ible (Int.ofNat 65) (Int.ofNat x.toNat)&&ible (Int.ofNat x.toNat) (Int.ofNat 90)))||(ible (Int.ofNat 48) (Int.ofNat x.toNat)&&ible (Int.ofNat x.toNat) (Int.ofNat 57)))||ibeq (Int.ofNat x.toNat) (Int.ofNat 46))||ibeq (Int.ofNat x.toNat) (Int.ofNat 45))||ibeq (Int.ofNat x.toNat) (Int.ofNat 95)):=by
  simp only[ile,ieqN];rfl
theorem namedF(x:UInt8):(!namedB x)=((((((iblt (Int.ofNat x.toNat) (Int.ofNat 97)||iblt (Int.ofNat 122) (Int.ofNat x.toNat))&&(iblt (Int.ofNat x.toNat) (Int.ofNat 65)||iblt (Int.ofNat 90) (Int.ofNat x.toNat)))&&(iblt (Int.ofNat x.toNat) (Int.ofNat 48)||iblt (Int.ofNat 57) (Int.ofNat x.toNat)))&&bnot (ibeq (Int.ofNat x.toNat) (Int.ofNat 46)))&&bnot (ibeq (Int.ofNat x.toNat) (Int.ofNat 45)))&&bnot (ibeq (Int.ofNat x.toNat) (Int.ofNat 95))):=by
  have bn:∀b:Bool,bnot b=!b:=fun b=>by cases b<;>rfl
  have le:∀a b:Nat,decide (a<b)=!decide (b≤a):=fun a b=>by
    by_cases h:b≤a
    · rw[decide_eq_true h,decide_eq_false (by omega)];rfl
    · rw[decide_eq_false h,decide_eq_true (by omega)];rfl
  unfold namedB
  simp only[ilt,ieqN,bn,le,Bool.not_or,Bool.not_and]
/-! ### A part -/
theorem c82{x:UInt8}{h:H}{k:KV}(hk:k (.bool (namedB x)) h):W1 (.func 82) [.int .u8 (Int.ofNat x.toNat)] h k:=by
  refine w82 (n:=1) sw_ok (g82 ?_)
  unfold s82_0
  simp only[joinB_and,joinB_or]
  rw[namedN] at hk;exact hk
theorem c58_1{s:List UInt8}(hl:s.length≤1000000){h:H}{k:KV}:∀(n i:Nat)(b:Bool),s.length-i<n→i≤s.length→k (.bool (b&&(s.drop i).all namedB)) h→(r58 W1 k n).a1 s.length (enc s) b (Int.ofNat i) h
  |0,_,_,hn,_,_=>absurd hn (Nat.not_lt_zero _)
  |n+1,i,b,hn,hi,hk=>by
    refine j58_1 ?_
    unfold s58_1
    simp only[joinB_and,ilt]
    refine cnd_i (fun e=>?_) (fun e=>?_)
    · rw[Bool.and_eq_true,decide_eq_true_eq] at e
      obtain⟨e,rfl⟩:=e
      refine natI_i (idxS_i e ?_)
      refine c82 ?_
      rw[asB_b]
      refine fIadd (by omega) ?_
      refine c58_1 hl n (i+1) _ (by omega) e ?_
      rw[List.drop_eq_getElem_cons e,List.all_cons,Bool.true_and] at hk
      exact hk
    · have:(b&&(s.drop i).all namedB)=b:=by
        cases b with
        |false=>rfl
        |true=>
          rw[Bool.and_true,decide_eq_false_iff_not] at e
          rw[List.drop_eq_nil_of_le (by omega)];rfl
      rw[this] at hk;exact hk
theorem bn_not(b:Bool):bnot b=!b:=by cases b<;>rfl
theorem c58{s:List UInt8}(hl:s.length≤1000000){h:H}{k:KV}(hk:k (.bool (partB s)) h):W1 (.func 58) [S s] h k:=by
  refine w58 (n:=s.length+2) sw_ok (g58 ?_)
  unfold s58_0
  simp only[joinB_and,ile,strEq_nil,bn_not]
  rw[strEq_l (t:=[46]) (l:=1) (c:=46) rfl rfl,strEq_l (t:=[46,46]) (l:=2) (c:=11822) rfl rfl]
  exact c58_1 hl _ 0 _ (by omega) (Nat.zero_le _) hk
theorem c56_1{s:List UInt8}(hl:s.length≤1000000){h:H}{k:KV}(hk:k (.bool (partB s)) h):∀(n i:Nat),s.length-i<n→i≤s.length→partB s=(sizeB s&&(s.drop i).all namedB)→(r56 W1 k n).a1 s.length (enc s) (Int.ofNat i) h
  |0,_,hn,_,_=>absurd hn (Nat.not_lt_zero _)
  |n+1,i,hn,hi,hp=>by
    refine j56_1 ?_
    unfold s56_1
    rw[ilt]
    refine cnd_i (fun e=>?_) (fun e=>?_)
    · have e:i<s.length:=of_decide_eq_true e
      refine natI_i (idxS_i e ?_)
      simp only[joinB_and,joinB_or]
      rw[←namedF]
      rw[List.drop_eq_getElem_cons e,List.all_cons] at hp
      refine cnd_i (fun q=>?_) (fun q=>?_)
      · have q:namedB s[i]=false:=by cases w:namedB s[i] with
          |true=>rw[w] at q;cases q
          |false=>rfl
        rw[hp,q,Bool.false_and,Bool.and_false] at hk;exact hk
      · have q:namedB s[i]=true:=by cases w:namedB s[i] with
          |true=>rfl
          |false=>rw[w] at q;cases q
        refine fIadd (by omega) ?_
        exact c56_1 hl hk n (i+1) (by omega) e (by rw[hp,q,Bool.true_and])
    · have e:¬i<s.length:=of_decide_eq_false e
      rw[List.drop_eq_nil_of_le (by omega)] at hp
      simp only[joinB_and,ile,bn_not]
      rw[strEq_l (t:=[46]) (l:=1) (c:=46) rfl rfl,strEq_l (t:=[46,46]) (l:=2) (c:=11822) rfl rfl]
      have:sizeB s=(((decide (1≤s.length)&&decide (s.length≤20))&&!decide (s=[46]))&&!decide (s=[46,46])):=by
        unfold sizeB
        have:(!decide (s=[]))=decide (1≤s.length):=by cases s<;>simp
        rw[this]
      rw[hp,show([]:List UInt8).all namedB=true from rfl,Bool.and_true,this] at hk
      exact hk
theorem c56{s:List UInt8}(hl:s.length≤1000000){h:H}{k:KV}(hk:k (.bool (partB s)) h):W1 (.func 56) [S s] h k:=by
  refine w56 (n:=s.length+2) sw_ok (g56 ?_)
  unfold s56_0
  exact c56_1 hl hk _ 0 (by omega) (Nat.zero_le _) rfl
/-! ### Parts -/
noncomputable def Z9:Tm:=tlist [.str 0 0] 0 .e
theorem bld9(x y:Nat)(h:H):withElem env 48 (fun e ei=>exBuildSlice 1 [(0,.str x y)] h e ei)=some (.slice h.next 0 1 1 true,h.new (.row (tlist [.str x y] 0 Z9) 1 0 9 true)):=by kernel_rfl
theorem app48(x y:AV)(h:H):builtinA env .append [48,48] [x,y] h=exAppend (some false) x y h 9 (eiOf 9):=by kernel_rfl
theorem sz9:(eiOf 9).size=1:=by kernel_rfl
theorem fits9{n:Nat}(hn:n≤1099511627776):fitsMem (eiOf 9) n=true:=fits_n (by kernel_rfl) (by kernel_rfl) hn
theorem scs_snoc(l:List (List UInt8))(s:List UInt8):scs (l++[s])=scs l++[[S s]]:=by unfold scs;rw[List.map_append];rfl
theorem app_str{lo:Nat}{h:H}{v:AV}{l:List (List UInt8)}{s:List UInt8}(hb:BufN 9 1 lo h v (scs l))(hl:l.length+1≤1099511627776)(hlo:lo≤h.next.nat){k:KV}(hk:∀v' h',BufN 9 1 lo h' v' (scs (l++[s]))→Kp 9 lo h h'→k v' h'):
    oK (withElem env 48 (fun e ei=>exBuildSlice 1 [(0,.str s.length (enc s))] h e ei)) fun x h'=>oK (builtinA env .append [48,48] [v,x] h') k:=by
  rw[bld9,oK_some,app48]
  exact app_new (ds:=[S s]) hb rfl sz9 (fits9 (by rw[scs_len];exact hl)) hlo (by rw[←scs_snoc];exact hk)
theorem c55_1 {hE : H} {s : List UInt8} (hl : s.length ≤ 1000000) {k : KV} : ∀ (n i a : Nat) (acc : List (List UInt8)) {h : H} {v : AV}, 2 * (s.length + 1 - i) < n → a ≤ i → i ≤ s.length → acc.length ≤ i → Exh hE h → BufN 9 1 hE.next.nat h v (scs acc) →
    (∀ h' v', Exh hE h' → BufN 9 1 hE.next.nat h' v' (scs (acc ++ partsA ((s.drop a).take (i - a)) (s.drop i))) → k v' h') → (r55 W1 k n).a1 s.length (enc s) v (Int.ofNat a) (Int.ofNat i) h
  | 0, _, _, _, _, _, hn, _, _, _, _, _, _ => absurd hn (Nat.not_lt_zero _)
  | n + 1, i, a, acc, h, v, hn, ha, hi, hacc, hx, hb, hk => by
    refine j55_1 ?_
    unfold s55_1
    rw [ile]
    refine cnd_t (decide_eq_true hi) ?_
    obtain ⟨m, rfl⟩ : ∃ m, n = m + 1 := ⟨n - 1, by omega⟩
    obtain ⟨m2, rfl⟩ : ∃ m2, m = m2 + 1 := ⟨m - 1, by omega⟩
    rw [ieqN]
    rcases Nat.lt_or_ge i s.length with e | e
    · refine or_q (b := decide (s[i] = 47)) (fun k' hk' => natI_i (idxS_i e (by rw [ieqc _ 47 (by decide)]; exact hk'))) ?_
      rw [decide_eq_false (show ¬ i = s.length by omega), Bool.false_or]
      rw [List.drop_eq_getElem_cons e, partsA] at hk
      refine cnd_i (fun q => ?_) (fun q => ?_)
      · have q : s[i] = 47 := of_decide_eq_true q
        rw [if_pos q] at hk
        refine natI_i (natI_i (cutS_i ha hi ?_))
        refine app_str hb (by omega) hx.1 fun v' h' hb' hk' => ?_
        refine fIadd (by omega) ?_
        refine j55_2 ?_
        unfold s55_2
        refine fIadd (by omega) ?_
        refine c55_1 hl (m2 + 1) (i + 1) (i + 1) _ (by omega) (Nat.le_refl _) e (by rw [List.length_append, List.length_singleton]; omega) (hx.kp (Nat.le_refl _) hk') hb' fun h3 v3 a3 b3 => hk h3 v3 a3 ?_
        rw [Nat.sub_self, List.take_zero, List.append_assoc] at b3; exact b3
      · have q : ¬ s[i] = 47 := of_decide_eq_false q
        rw [if_neg q] at hk
        refine j55_2 ?_
        unfold s55_2
        refine fIadd (by omega) ?_
        refine c55_1 hl (m2 + 1) (i + 1) a acc (by omega) (by omega) e (by omega) hx hb fun h3 v3 a3 b3 => hk h3 v3 a3 ?_
        have : (s.drop a).take (i + 1 - a) = (s.drop a).take (i - a) ++ [s[i]] := by
          rw [show i + 1 - a = i - a + 1 by omega, List.take_succ_eq_append_getElem (by rw [List.length_drop]; omega), List.getElem_drop]
          congr 2
          congr 1; omega
        rw [this] at b3; exact b3
    · have e : i = s.length := by omega
      subst e
      rw [decide_eq_true rfl]
      refine or_i (fun q => by cases q) fun _ => cnd_t rfl ?_
      refine natI_i (natI_i (cutS_i ha hi ?_))
      refine app_str hb (by omega) hx.1 fun v' h' hb' hk' => ?_
      refine fIadd (by omega) ?_
      refine j55_2 ?_
      unfold s55_2
      refine fIadd (by omega) ?_
      refine j55_1 ?_
      unfold s55_1
      rw [ile]
      refine cnd_f (decide_eq_false (by omega)) ?_
      rw [List.drop_length, partsA] at hk
      exact hk _ _ (hx.kp (Nat.le_refl _) hk') hb'
theorem c55{s:List UInt8}(hl:s.length≤1000000){h:H}{k:KV}(hk:∀h' v',Exh h h'→BufN 9 1 h.next.nat h' v' (scs (parts s))→k v' h'):W1 (.func 55) [S s] h k:=by
  refine w55 (n:=2*(s.length+1)+1+1) sw_ok (g55 ?_)
  unfold s55_0
  exact c55_1 hl _ 0 0 [] (by omega) (Nat.le_refl _) (Nat.zero_le _) (Nat.le_refl _) .refl (.inl ⟨rfl,rfl⟩) fun h' v' a b=>hk h' v' a b
/-! ### A path -/
theorem partsA_mem:∀(r acc:List UInt8),∀x∈partsA acc r,x.length≤acc.length+r.length
  |[],acc,x,hx=>by
    rw[partsA,List.mem_singleton] at hx;subst hx;simp
  |c::r,acc,x,hx=>by
    unfold partsA at hx
    split at hx
    · rcases List.mem_cons.1 hx with rfl|hx
      · omega
      · have:=partsA_mem r [] x hx
        simp only[List.length_cons,List.length_nil] at this ⊢;omega
    · have:=partsA_mem r (acc++[c]) x hx
      simp only[List.length_cons,List.length_append,List.length_nil] at this ⊢;omega
theorem c31_1{h:H}{v:AV}{l:List (List UInt8)}(hr:SlR 1 h v (scs l))(hl:l.length≤1000000)(hm:∀x∈l,x.length≤1000000){k:KV}:∀(n i:Nat),l.length-i<n→i≤l.length→k (.bool ((l.drop i).all partB)) h→(r31 W1 k n).a1 v (Int.ofNat i) h
  |0,_,hn,_,_=>absurd hn (Nat.not_lt_zero _)
  |n+1,i,hn,hi,hk=>by
    refine j31_1 ?_
    unfold s31_1
    rw[hr.len,scs_len,ilt]
    refine cnd_i (fun e=>?_) (fun e=>?_)
    · have e:i<l.length:=of_decide_eq_true e
      have e':i<(scs l).length:=by rw[scs_len];exact e
      refine natI_go ((hr.rd e').elem e' fun q o _ _ ha=>?_)
      rw[scs_get e] at ha
      refine ha.ld1 (j:=0) (by show 0<1;decide) ?_
      show asS (S l[i]) _
      rw[asS_s]
      refine c56 (hm _ (List.getElem_mem e)) ?_
      rw[asB_b,bn_not]
      rw[List.drop_eq_getElem_cons e,List.all_cons] at hk
      refine cnd_i (fun w=>?_) (fun w=>?_)
      · have w:partB l[i]=false:=by cases z:partB l[i] with
          |true=>rw[z] at w;cases w
          |false=>rfl
        rw[w,Bool.false_and] at hk;exact hk
      · have w:partB l[i]=true:=by cases z:partB l[i] with
          |true=>rfl
          |false=>rw[z] at w;cases w
        rw[w,Bool.true_and] at hk
        refine fIadd (by omega) ?_
        exact c31_1 hr hl hm n (i+1) (by omega) e hk
    · have e:¬i<l.length:=of_decide_eq_false e
      rw[List.drop_eq_nil_of_le (by omega)] at hk
      exact hk
theorem BufN.slr{e:TypeId}{sz lo:Nat}{h:H}{v:AV}{L:List (List AV)}(hb:BufN e sz lo h v L):SlR sz h v L:=hb.rd'
theorem c31{s:List UInt8}(hl:s.length≤1000000){h:H}{k:KV}(hk:∀h',Exh h h'→k (.bool (valB s)) h'):W1 (.func 31) [S s] h k:=by
  refine w31 (n:=(parts s).length+2) sw_ok (g31 ?_)
  unfold s31_0
  rw[show iblt (Int.ofNat 80) (Int.ofNat s.length)=decide (80<s.length) from ilt _ _]
  refine cnd_i (fun e=>?_) (fun e=>?_)
  · have e:80<s.length:=of_decide_eq_true e
    have:valB s=false:=by unfold valB;rw[decide_eq_false (by omega)];rfl
    rw[this] at hk;exact hk h .refl
  · have e:¬80<s.length:=of_decide_eq_false e
    have:valB s=(parts s).all partB:=by unfold valB;rw[decide_eq_true (by omega)];rfl
    rw[this] at hk
    refine c55 hl fun h' v' x b=>?_
    have pl:=partsA_len s []
    exact c31_1 b.slr (by unfold parts;omega) (fun y hy=>by have:=partsA_mem s [] y hy;simp only[List.length_nil] at this;omega) _ 0 (by omega) (Nat.zero_le _) (hk h' x)
end Go.Den
