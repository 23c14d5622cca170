/-
 Proof.
-/
import Derived.Test.YtheajahjkmfeaaaGreatDoorIst
noncomputable section
namespace Go.Den
open Go.RowKit
set_option maxRecDepth 100000
def Jq(x:UInt8):Bool:=(((((decide (97≤x.toNat)&&decide (x.toNat≤122))||(decide (65≤x.toNat)&&decide (x.toNat≤90)))||(decide (48≤x.toNat)&&decide (x.toNat≤57)))||decide (x.toNat=46))||decide (x.toNat=45))||decide (x.toNat=95)
def Amf(s:List UInt8):Bool:=((!decide (s=[])&&decide (s.length≤20))&&!decide (s=[46]))&&!decide (s=[46,46])
def Ip(s:List UInt8):Bool:=Amf s&&s.all Jq
def Hg:List UInt8→List UInt8→List (List UInt8)
 |acc,[]=>[acc]
 |acc,c::r=>if c=47 then acc::Hg [] r else Hg (acc++[c]) r
def parts(s:List UInt8):List (List UInt8):=Hg [] s
def Me(s:List UInt8):Bool:=decide (s.length≤80)&&(parts s).all Ip
theorem Tk:∀(r acc:List UInt8),(Hg acc r).length≤r.length+1
 |[],_=>Nat.le_refl _
 |c::r,acc=>by
  unfold Hg
  split
  · have:=Tk r []
    simp only[List.length_cons];omega
  · have:=Tk r (acc++[c])
    simp only[List.length_cons];omega
theorem A7p(x:UInt8):Jq x=((((((Ef (Int.ofNat 97) (Int.ofNat x.toNat)&&Ef (Int.ofNat x.toNat) (Int.ofNat 122))||(Ef (Int.ofNat 65) (Int.ofNat x.toNat)&&Ef (Int.ofNat x.toNat) (Int.ofNat 90)))||(Ef (Int.ofNat 48) (Int.ofNat x.toNat)&&Ef (Int.ofNat x.toNat) (Int.ofNat 57)))||Bx (Int.ofNat x.toNat) (Int.ofNat 46))||Bx (Int.ofNat x.toNat) (Int.ofNat 45))||Bx (Int.ofNat x.toNat) (Int.ofNat 95)):=by
 simp only[ile,Wx];rfl
theorem A7q(x:UInt8):(!Jq x)=((((((Ca (Int.ofNat x.toNat) (Int.ofNat 97)||Ca (Int.ofNat 122) (Int.ofNat x.toNat))&&(Ca (Int.ofNat x.toNat) (Int.ofNat 65)||Ca (Int.ofNat 90) (Int.ofNat x.toNat)))&&(Ca (Int.ofNat x.toNat) (Int.ofNat 48)||Ca (Int.ofNat 57) (Int.ofNat x.toNat)))&&Ci (Bx (Int.ofNat x.toNat) (Int.ofNat 46)))&&Ci (Bx (Int.ofNat x.toNat) (Int.ofNat 45)))&&Ci (Bx (Int.ofNat x.toNat) (Int.ofNat 95))):=by
 have bn:∀b:Bool,Ci b=!b:=fun b=>by cases b<;>rfl
 have le:∀a b:Nat,decide (a<b)=!decide (b≤a):=fun a b=>by
  by_cases h:b≤a
  · rw[decide_eq_true h,decide_eq_false (by omega)];rfl
  · rw[decide_eq_false h,decide_eq_true (by omega)];rfl
 unfold Jq
 simp only[ilt,Wx,bn,le,Bool.not_or,Bool.not_and]
theorem c74{x:UInt8}{h:H}{k:KV}(hk:k (.bool (Jq x)) h):W1 (.func 74) [.int .u8 (Int.ofNat x.toNat)] h k:=by
 refine w74 (n:=1) Bg (g74 ?_)
 unfold Am1
 simp only[Nj,Aaw]
 rw[A7p] at hk;exact hk
theorem A34{s:List UInt8}(hl:s.length≤1000000){h:H}{k:KV}:∀(n i:Nat)(b:Bool),s.length-i<n→i≤s.length→k (.bool (b&&(s.drop i).all Jq)) h→(r48 W1 k n).a1 s.length (enc s) b (Int.ofNat i) h
 |0,_,_,hn,_,_=>absurd hn (Nat.not_lt_zero _)
 |n+1,i,b,hn,hi,hk=>by
  refine Be0 ?_
  unfold Anv
  simp only[Nj,ilt]
  refine Br (fun e=>?_) (fun e=>?_)
  · rw[Bool.and_eq_true,decide_eq_true_eq] at e
    obtain⟨e,rfl⟩:=e
    refine Gu (Fz e ?_)
    refine c74 ?_
    rw[Bn]
    refine Bw (by omega) ?_
    refine A34 hl n (i+1) _ (by omega) e ?_
    rw[List.drop_eq_getElem_cons e,List.all_cons,Bool.true_and] at hk
    exact hk
  · have:(b&&(s.drop i).all Jq)=b:=by
     cases b with
     |false=>rfl
     |true=>
      rw[Bool.and_true,decide_eq_false_iff_not] at e
      rw[List.drop_eq_nil_of_le (by omega)];rfl
    rw[this] at hk;exact hk
theorem Gv(b:Bool):Ci b=!b:=by cases b<;>rfl
theorem c48{s:List UInt8}(hl:s.length≤1000000){h:H}{k:KV}(hk:k (.bool (Ip s)) h):W1 (.func 48) [S s] h k:=by
 refine w48 (n:=s.length+2) Bg (g48 ?_)
 unfold Anw
 simp only[Nj,ile,Wh,Gv]
 rw[Ue (t:=[46]) (l:=1) (c:=46) rfl rfl,Ue (t:=[46,46]) (l:=2) (c:=11822) rfl rfl]
 exact A34 hl _ 0 _ (by omega) (Nat.zero_le _) hk
theorem A33{s:List UInt8}(hl:s.length≤1000000){h:H}{k:KV}(hk:k (.bool (Ip s)) h):∀(n i:Nat),s.length-i<n→i≤s.length→Ip s=(Amf s&&(s.drop i).all Jq)→(r54 W1 k n).a1 s.length (enc s) (Int.ofNat i) h
 |0,_,hn,_,_=>absurd hn (Nat.not_lt_zero _)
 |n+1,i,hn,hi,hp=>by
  refine Bex ?_
  unfold Anm
  rw[ilt]
  refine Br (fun e=>?_) (fun e=>?_)
  · have e:i<s.length:=of_decide_eq_true e
    refine Gu (Fz e ?_)
    simp only[Nj,Aaw]
    rw[←A7q]
    rw[List.drop_eq_getElem_cons e,List.all_cons] at hp
    refine Br (fun q=>?_) (fun q=>?_)
    · have q:Jq s[i]=false:=by cases w:Jq s[i] with
       |true=>rw[w] at q;cases q
       |false=>rfl
      rw[hp,q,Bool.false_and,Bool.and_false] at hk;exact hk
    · have q:Jq s[i]=true:=by cases w:Jq s[i] with
       |true=>rfl
       |false=>rw[w] at q;cases q
      refine Bw (by omega) ?_
      exact A33 hl hk n (i+1) (by omega) e (by rw[hp,q,Bool.true_and])
  · have e:¬i<s.length:=of_decide_eq_false e
    rw[List.drop_eq_nil_of_le (by omega)] at hp
    simp only[Nj,ile,Gv]
    rw[Ue (t:=[46]) (l:=1) (c:=46) rfl rfl,Ue (t:=[46,46]) (l:=2) (c:=11822) rfl rfl]
    have:Amf s=(((decide (1≤s.length)&&decide (s.length≤20))&&!decide (s=[46]))&&!decide (s=[46,46])):=by
     unfold Amf
     have:(!decide (s=[]))=decide (1≤s.length):=by cases s<;>simp
     rw[this]
    rw[hp,show([]:List UInt8).all Jq=true from rfl,Bool.and_true,this] at hk
    exact hk
theorem c54{s:List UInt8}(hl:s.length≤1000000){h:H}{k:KV}(hk:k (.bool (Ip s)) h):W1 (.func 54) [S s] h k:=by
 refine w54 (n:=s.length+2) Bg (g54 ?_)
 unfold Ann
 exact A33 hl hk _ 0 (by omega) (Nat.zero_le _) rfl
def Z9:Tm:=Aj [.str 0 0] 0 .e
theorem Bjt(x y:Nat)(h:H):Ap env 32 (fun e ei=>Ak 1 [(0,.str x y)] h e ei)=some (.slice h.next 0 1 1 true,h.new (.row (Aj [.str x y] 0 Z9) 1 0 9 true)):=by kernel_rfl
theorem Ayk(x y:AV)(h:H):Ar env .append [32,32] [x,y] h=Co (some false) x y h 9 (Hz 9):=by kernel_rfl
theorem sz9:(Hz 9).size=1:=by kernel_rfl
theorem Avz{n:Nat}(hn:n≤1099511627776):Bv (Hz 9) n=true:=Lv (by kernel_rfl) (by kernel_rfl) hn
theorem Ahi(l:List (List UInt8))(s:List UInt8):scs (l++[s])=scs l++[[S s]]:=by unfold scs;rw[List.map_append];rfl
theorem Aq0{lo:Nat}{h:H}{v:AV}{l:List (List UInt8)}{s:List UInt8}(hb:Cb 9 1 lo h v (scs l))(hl:l.length+1≤1099511627776)(hlo:lo≤h.next.nat){k:KV}(hk:∀v' h',Cb 9 1 lo h' v' (scs (l++[s]))→Kp 9 lo h h'→k v' h'):
 oK (Ap env 32 (fun e ei=>Ak 1 [(0,.str s.length (enc s))] h e ei)) fun x h'=>oK (Ar env .append [32,32] [v,x] h') k:=by
 rw[Bjt,Ad,Ayk]
 exact Zg (ds:=[S s]) hb rfl sz9 (Avz (by rw[Fc];exact hl)) hlo (by rw[←Ahi];exact hk)
theorem Axj {hE : H} {s : List UInt8} (hl : s.length ≤ 1000000) {k : KV} : ∀ (n i a : Nat) (acc : List (List UInt8)) {h : H} {v : AV}, 2 * (s.length + 1 - i) < n → a ≤ i → i ≤ s.length → acc.length ≤ i → Exh hE h → Cb 9 1 hE.next.nat h v (scs acc) →
    (∀ h' v', Exh hE h' → Cb 9 1 hE.next.nat h' v' (scs (acc ++ Hg ((s.drop a).take (i - a)) (s.drop i))) → k v' h') → (r53 W1 k n).a1 s.length (enc s) v (Int.ofNat a) (Int.ofNat i) h
  | 0, _, _, _, _, _, hn, _, _, _, _, _, _ => absurd hn (Nat.not_lt_zero _)
  | n + 1, i, a, acc, h, v, hn, ha, hi, hacc, hx, hb, hk => by
    refine A3g ?_
    unfold Aho
    rw [ile]
    refine Dp (decide_eq_true hi) ?_
    obtain ⟨m, rfl⟩ : ∃ m, n = m + 1 := ⟨n - 1, by omega⟩
    obtain ⟨m2, rfl⟩ : ∃ m2, m = m2 + 1 := ⟨m - 1, by omega⟩
    rw [Wx]
    rcases Nat.lt_or_ge i s.length with e | e
    · refine Aae (b := decide (s[i] = 47)) (fun k' hk' => Gu (Fz e (by rw [Ww _ 47 (by decide)]; exact hk'))) ?_
      rw [decide_eq_false (show ¬ i = s.length by omega), Bool.false_or]
      rw [List.drop_eq_getElem_cons e, Hg] at hk
      refine Br (fun q => ?_) (fun q => ?_)
      · have q : s[i] = 47 := of_decide_eq_true q
        rw [if_pos q] at hk
        refine Gu (Gu (Agi ha hi ?_))
        refine Aq0 hb (by omega) hx.1 fun v' h' hb' hk' => ?_
        refine Bw (by omega) ?_
        refine Ava ?_
        unfold Acv
        refine Bw (by omega) ?_
        refine Axj hl (m2 + 1) (i + 1) (i + 1) _ (by omega) (Nat.le_refl _) e (by rw [List.length_append, List.length_singleton]; omega) (hx.kp (Nat.le_refl _) hk') hb' fun h3 v3 a3 b3 => hk h3 v3 a3 ?_
        rw [Nat.sub_self, List.take_zero, List.append_assoc] at b3; exact b3
      · have q : ¬ s[i] = 47 := of_decide_eq_false q
        rw [if_neg q] at hk
        refine Ava ?_
        unfold Acv
        refine Bw (by omega) ?_
        refine Axj hl (m2 + 1) (i + 1) a acc (by omega) (by omega) e (by omega) hx hb fun h3 v3 a3 b3 => hk h3 v3 a3 ?_
        have : (s.drop a).take (i + 1 - a) = (s.drop a).take (i - a) ++ [s[i]] := by
          rw [show i + 1 - a = i - a + 1 by omega, List.take_succ_eq_append_getElem (by rw [List.length_drop]; omega), List.getElem_drop]
          congr 2
          congr 1; omega
        rw [this] at b3; exact b3
    · have e : i = s.length := by omega
      subst e
      rw [decide_eq_true rfl]
      refine Qe (fun q => by cases q) fun _ => Dp rfl ?_
      refine Gu (Gu (Agi ha hi ?_))
      refine Aq0 hb (by omega) hx.1 fun v' h' hb' hk' => ?_
      refine Bw (by omega) ?_
      refine Ava ?_
      unfold Acv
      refine Bw (by omega) ?_
      refine A3g ?_
      unfold Aho
      rw [ile]
      refine Cp (decide_eq_false (by omega)) ?_
      rw [List.drop_length, Hg] at hk
      exact hk _ _ (hx.kp (Nat.le_refl _) hk') hb'
theorem c53{s:List UInt8}(hl:s.length≤1000000){h:H}{k:KV}(hk:∀h' v',Exh h h'→Cb 9 1 h.next.nat h' v' (scs (parts s))→k v' h'):W1 (.func 53) [S s] h k:=by
 refine w53 (n:=2*(s.length+1)+1+1) Bg (g53 ?_)
 unfold Ano
 exact Axj hl _ 0 0 [] (by omega) (Nat.le_refl _) (Nat.zero_le _) (Nat.le_refl _) .refl (.inl ⟨rfl,rfl⟩) fun h' v' a b=>hk h' v' a b
theorem Tj:∀(r acc:List UInt8),∀x∈Hg acc r,x.length≤acc.length+r.length
 |[],acc,x,hx=>by
  rw[Hg,List.mem_singleton] at hx;subst hx;simp
 |c::r,acc,x,hx=>by
  unfold Hg at hx
  split at hx
  · rcases List.mem_cons.1 hx with rfl|hx
    · omega
    · have:=Tj r [] x hx
      simp only[List.length_cons,List.length_nil] at this ⊢;omega
  · have:=Tj r (acc++[c]) x hx
    simp only[List.length_cons,List.length_append,List.length_nil] at this ⊢;omega
theorem A38{h:H}{v:AV}{l:List (List UInt8)}(hr:SlR 1 h v (scs l))(hl:l.length≤1000000)(hm:∀x∈l,x.length≤1000000){k:KV}:∀(n i:Nat),l.length-i<n→i≤l.length→k (.bool ((l.drop i).all Ip)) h→(r30 W1 k n).a1 v (Int.ofNat i) h
 |0,_,hn,_,_=>absurd hn (Nat.not_lt_zero _)
 |n+1,i,hn,hi,hk=>by
  refine Bfc ?_
  unfold Aoj
  rw[hr.len,Fc,ilt]
  refine Br (fun e=>?_) (fun e=>?_)
  · have e:i<l.length:=of_decide_eq_true e
    have e':i<(scs l).length:=by rw[Fc];exact e
    refine Dg ((hr.rd e').elem e' fun q o _ _ ha=>?_)
    rw[Of e] at ha
    refine ha.ld1 (j:=0) (by show 0<1;decide) ?_
    show asS (S l[i]) _
    rw[Eg]
    refine c54 (hm _ (List.getElem_mem e)) ?_
    rw[Bn,Gv]
    rw[List.drop_eq_getElem_cons e,List.all_cons] at hk
    refine Br (fun w=>?_) (fun w=>?_)
    · have w:Ip l[i]=false:=by cases z:Ip l[i] with
       |true=>rw[z] at w;cases w
       |false=>rfl
      rw[w,Bool.false_and] at hk;exact hk
    · have w:Ip l[i]=true:=by cases z:Ip l[i] with
       |true=>rfl
       |false=>rw[z] at w;cases w
      rw[w,Bool.true_and] at hk
      refine Bw (by omega) ?_
      exact A38 hr hl hm n (i+1) (by omega) e hk
  · have e:¬i<l.length:=of_decide_eq_false e
    rw[List.drop_eq_nil_of_le (by omega)] at hk
    exact hk
theorem Cb.slr{e:TypeId}{sz lo:Nat}{h:H}{v:AV}{L:List (List AV)}(hb:Cb e sz lo h v L):SlR sz h v L:=hb.rd'
theorem c30{s:List UInt8}(hl:s.length≤1000000){h:H}{k:KV}(hk:∀h',Exh h h'→k (.bool (Me s)) h'):W1 (.func 30) [S s] h k:=by
 refine w30 (n:=(parts s).length+2) Bg (g30 ?_)
 unfold Aok
 rw[show Ca (Int.ofNat 80) (Int.ofNat s.length)=decide (80<s.length) from ilt _ _]
 refine Br (fun e=>?_) (fun e=>?_)
 · have e:80<s.length:=of_decide_eq_true e
   have:Me s=false:=by unfold Me;rw[decide_eq_false (by omega)];rfl
   rw[this] at hk;exact hk h .refl
 · have e:¬80<s.length:=of_decide_eq_false e
   have:Me s=(parts s).all Ip:=by unfold Me;rw[decide_eq_true (by omega)];rfl
   rw[this] at hk
   refine c53 hl fun h' v' x b=>?_
   have pl:=Tk s []
   exact A38 b.slr (by unfold parts;omega) (fun y hy=>by have:=Tj s [] y hy;simp only[List.length_nil] at this;omega) _ 0 (by omega) (Nat.zero_le _) (hk h' x)
end Go.Den
