/-
  A part of the proof: the characters of any text: the program's, and the document's.
-/
import Derived.Test.YtpjkiikmjddpiaaGreatDoorMak
import Derived.Test.YtpjkiikmjddpiaaGreatDoorLexq
namespace Go.Den
open Go.RowKit
set_option maxRecDepth 100000
open Go.Lx (Rn splR plainR tri triF triT)
/-! ### Plain -/
theorem plainR_go{s:List UInt8}{i:Nat}(h:i<s.length)(hn:∀h2:i+2<s.length,s[i]=63→s[i+1]=63→tri s[i+2]=none):plainR i (s.drop i)=(s[i],i,i+1)::plainR (i+1) (s.drop (i+1)):=by
  rw[List.drop_eq_getElem_cons h]
  rcases Nat.lt_or_ge (i+1) s.length with h1|h1
  · rw[List.drop_eq_getElem_cons h1]
    rcases Nat.lt_or_ge (i+2) s.length with h2|h2
    · rw[List.drop_eq_getElem_cons h2,plainR]
      by_cases e:s[i]=63∧s[i+1]=63
      · rw[if_pos e,hn h2 e.1 e.2]
      · rw[if_neg e]
    · rw[List.drop_eq_nil_of_le (by omega),plainR,plainR]
  · rw[List.drop_eq_nil_of_le h1,plainR,plainR]
theorem plainR_tri{s:List UInt8}{i:Nat}(h2:i+2<s.length)(e1:s[i]=63)(e2:s[i+1]=63){d:UInt8}(e3:tri s[i+2]=some d):plainR i (s.drop i)=(d,i,i+3)::plainR (i+3) (s.drop (i+3)):=by
  rw[List.drop_eq_getElem_cons (show i<s.length by omega),List.drop_eq_getElem_cons (show i+1<s.length by omega),List.drop_eq_getElem_cons h2,plainR,if_pos ⟨e1,e2⟩,e3]
theorem tri_10{x d:UInt8}(h:tri x=some d):d≠10:=by
  unfold tri at h
  cases e:(triF.zip triT).find? (fun p=>p.1==x) with
  |none=>rw[e] at h;cases h
  |some p=>
    rw[e] at h
    cases h
    have hm:=List.mem_of_find?_eq_some e
    have:∀p∈triF.zip triT,p.2≠10:=by decide
    exact this p hm
/-- behind a place a line's end is a byte 10 -/
theorem plainR_10{s:List UInt8}{i:Nat}(h:i<s.length):∃x l,plainR i (s.drop i)=x::l∧(x.1=10↔s[i]=10)∧(s[i]=10→l=plainR (i+1) (s.drop (i+1))):=by
  by_cases ht:∃h2:i+2<s.length,s[i]=63∧s[i+1]=63∧tri s[i+2]≠none
  · obtain⟨h2,e1,e2,e3⟩:=ht
    cases e:tri s[i+2] with
    |none=>exact absurd e e3
    |some d=>
      refine⟨_,_,plainR_tri h2 e1 e2 e,⟨fun q=>absurd q (tri_10 e),fun q=>?_⟩,fun q=>?_⟩
      · rw[e1] at q;exact absurd q (by decide)
      · rw[e1] at q;exact absurd q (by decide)
  · refine⟨_,_,plainR_go h fun h2 e1 e2=>?_,Iff.rfl,fun _=>rfl⟩
    exact Classical.byContradiction fun e=>ht ⟨h2,e1,e2,e⟩
theorem splR_2{x y:Rn}{r:List Rn}:splR (x::y::r)=if x.1=92∧y.1=10 then splR r else x::splR (y::r):=by rw[splR]
/-- a backslash ahead of a line's end -/
theorem splR_bs{s:List UInt8}{r:Rn}(h1:r.1=92)(h:r.2.2<s.length)(h2:s[r.2.2]=10):splR (r::plainR r.2.2 (s.drop r.2.2))=splR (plainR (r.2.2+1) (s.drop (r.2.2+1))):=by
  obtain⟨x,l,e,hx,hl⟩:=plainR_10 h
  rw[e,splR_2,if_pos ⟨h1,hx.2 h2⟩,hl h2]
theorem splR_no{s:List UInt8}{r:Rn}(h:¬(r.1=92∧∃h:r.2.2<s.length,s[r.2.2]=10)):splR (r::plainR r.2.2 (s.drop r.2.2))=r::splR (plainR r.2.2 (s.drop r.2.2)):=by
  rcases Nat.lt_or_ge r.2.2 s.length with h1|h1
  · obtain⟨x,l,e,hx,_⟩:=plainR_10 h1
    rw[e,splR_2,if_neg fun q=>h ⟨q.1,h1,hx.1 q.2⟩]
  · rw[List.drop_eq_nil_of_le h1,plainR,splR,splR]
/-- the characters of a text -/
def standR(s:List UInt8):List Rn:=splR (plainR 0 s)
def cel1(r:Rn):List AV:=[ub r.1,.int .i64 (.ofNat r.2.1),.int .i64 (.ofNat r.2.2)]
def cel(l:List Rn):List (List AV):=l.map cel1
theorem cel_len(l:List Rn):(cel l).length=l.length:=by unfold cel;rw[List.length_map]
theorem cel_get{l:List Rn}{i:Nat}(h:i<l.length)(h':i<(cel l).length):(cel l)[i]=cel1 l[i]:=List.getElem_map ..
theorem cel_snoc(l:List Rn)(r:Rn):cel (l++[r])=cel l++[[ub r.1,.int .i64 (.ofNat r.2.1),.int .i64 (.ofNat r.2.2)]]:=by unfold cel;rw[List.map_append];rfl
/-! ### Trigraphs, the program's -/
def triA(o:Option UInt8):AV:=match o with|some d=>.tuple [ub d,.bool true]|none=>.tuple [.int .u8 (.ofNat 0),.bool false]
theorem tri_none{x:UInt8}(h:x∉triF):tri x=none:=by
  unfold tri
  rw[List.find?_eq_none.2]
  · rfl
  · intro p hp e
    have hm:=(List.of_mem_zip hp).1
    rw[beq_iff_eq.1 e] at hm
    exact h hm
theorem tri_some{x:UInt8}(h:x∈triF):∃i,∃hi:i<triF.length,triF[i]=x:=by
  obtain⟨i,hi,e⟩:=List.getElem_of_mem h
  exact⟨i,hi,e⟩
theorem c111(x:UInt8):Pure PP G h0 111 [ub x] (triA (tri x)):=by
  by_cases hx:x∈triF
  · obtain⟨i,hi,rfl⟩:=tri_some hx
    match i,hi with
    |0,_|1,_|2,_|3,_|4,_|5,_|6,_|7,_|8,_=>exact pure_run (by kernel_rfl)
  · rw[tri_none hx]
    refine w111 (n:=1) sw_ok (g111 ?_)
    unfold s111_0
    refine use2 (c155 triF x) ?_
    rw[asI_k]
    refine cnd_t ?_ rfl
    rw[iblt_eq]
    exact decide_eq_true ((posL_neg triF x).2 hx)
/-! ### One character, the program's -/
noncomputable def Z163:Tm:=tlist [.int .u8 (.ofNat 0),.int .i64 (.ofNat 0),.int .i64 (.ofNat 0)] 0 .e
theorem bld163(a b c:AV)(h:H):withElem env 161 (fun e ei=>exBuildSlice 1 [(0,.agg [a,b,c])] h e ei)=some (.slice h.next 0 1 3 true,h.new (.row (tlist [a,b,c] 0 Z163) 3 0 163 true)):=by kernel_rfl
theorem app161(x y:AV)(h:H):builtinA env .append [161,161] [x,y] h=exAppend (some false) x y h 163 (eiOf 163):=by kernel_rfl
theorem exB163(a b c:Int)(h:H):exBuild env (env.ty 163) [(0,.int .u8 a),(1,.int .i64 b),(2,.int .i64 c)] h=some (.agg [.int .u8 a,.int .i64 b,.int .i64 c],h):=by kernel_rfl
theorem sz163:(eiOf 163).size=3:=by kernel_rfl
theorem fits163{n:Nat}(hn:n≤1099511627776):fitsMem (eiOf 163) n=true:=fits_n (by kernel_rfl) (by kernel_rfl) hn
theorem app163{lo:Nat}{h:H}{v:AV}{L:List (List AV)}{a b c:AV}(hb:BufN 163 3 lo h v L)(hl:L.length+1≤1099511627776)(hlo:lo≤h.next.nat){k:KV}(hk:∀v' h',BufN 163 3 lo h' v' (L++[[a,b,c]])→Kp 163 lo h h'→k v' h'):
    oK (withElem env 161 (fun e ei=>exBuildSlice 1 [(0,.agg [a,b,c])] h e ei)) fun x h'=>oK (builtinA env .append [161,161] [v,x] h') k:=by
  rw[bld163,oK_some,app161]
  exact app_new hb rfl sz163 (fits163 hl) hlo hk
section
variable{s:List UInt8}(hl:s.length≤1000000)
include hl
theorem c86{i:Nat}(hi:i<s.length){h:H}{k:KV}(hk:∀h' (r:Rn),Exh h h'→plainR i (s.drop i)=r::plainR r.2.2 (s.drop r.2.2)→i<r.2.2→r.2.2≤s.length→k (.agg (cel1 r)) h'):W1 (.func 86) [S s,.int .i64 (Int.ofNat i)] h k:=by
  refine w86 (n:=2) sw_ok (g86 ?_)
  unfold s86_0
  refine newK_i (natI_i (cutS_d (by omega) ?_))
  have fin:(∀h2:i+2<s.length,s[i]=63→s[i+1]=63→tri s[i+2]=none)→(r86 W1 k 1).a1 s.length (enc s) (Int.ofNat i) (.ptr h.next 0) (h.new ob163):=fun hno=>by
    refine j86_1 ?_
    unfold s86_1
    refine natI_i (idxS_i hi (fIadd (by omega) ?_))
    rw[exB163,oK_some]
    unfold ob163
    refine new_cp rfl rfl (by decide) fun h' x hn ha=>?_
    refine ha.ldn rfl ?_
    exact hk h' (s[i],i,i+1) x (plainR_go hi hno) (Nat.lt_succ_self i) hi
  refine use2 (c110 (s.drop i) [63,63]) ?_
  rw[asB_b]
  refine and_q (b:=decide (i+2<s.length)) (fun k' hk'=>fIadd (by omega) (by rw[ilt];exact hk')) ?_
  refine cnd_i (fun e=>?_) (fun e=>?_)
  · rw[Bool.and_eq_true,decide_eq_true_eq,decide_eq_true_eq] at e
    have h2:=e.2
    have e1:=e.1
    rw[List.drop_eq_getElem_cons hi,List.drop_eq_getElem_cons (show i+1<s.length by omega)] at e1
    have e1':[s[i],s[i+1]]=[63,63]:=e1
    have ea:s[i]=63:=(List.cons.inj e1').1
    have eb':s[i+1]=63:=(List.cons.inj (List.cons.inj e1').2).1
    refine fIadd (by omega) (natI_i (idxS_i h2 ?_))
    refine use2 (c111 s[i+2]) ?_ rfl (by cases tri s[i+2]<;>rfl)
    cases ht:tri s[i+2] with
    |none=>
      rw[show triA none=.tuple [.int .u8 (.ofNat 0),.bool false] from rfl,ext_0,asI_k,ext_1,asB_b]
      exact cnd_f rfl (fin fun _ _ _=>ht)
    |some d=>
      rw[show triA (some d)=.tuple [.int .u8 (Int.ofNat d.toNat),.bool true] from rfl,ext_0]
      rw[asI_k,ext_1,asB_b]
      refine cnd_t rfl (fIadd (by omega) ?_)
      rw[exB163,oK_some]
      unfold ob163
      refine new_cp rfl rfl (by decide) fun h' x hn ha=>?_
      refine ha.ldn rfl ?_
      exact hk h' (d,i,i+3) x (plainR_tri h2 ea eb' ht) (by show i<i+3;omega) (by show i+3≤s.length;omega)
  · refine fin fun h2 h1 h3=>?_
    exfalso
    rw[decide_eq_true h2,Bool.and_true,decide_eq_false_iff_not] at e
    apply e
    rw[List.drop_eq_getElem_cons hi,List.drop_eq_getElem_cons (show i+1<s.length by omega),h1,h3]
    rfl
/-! ### The characters, the program's -/
theorem c64_1 {hE : H} {k : KV} : ∀ (n i : Nat) (acc : List Rn) {h : H} {v : AV}, s.length - i < n → i ≤ s.length → acc.length ≤ i → Exh hE h → BufN 163 3 hE.next.nat h v (cel acc) →
    (∀ h' v', Exh hE h' → BufN 163 3 hE.next.nat h' v' (cel (acc ++ splR (plainR i (s.drop i)))) → k v' h') → s64_1 W1 k (r64 W1 k n) s.length (enc s) v (Int.ofNat i) h
  | 0, _, _, _, _, hn, _, _, _, _, _ => absurd hn (Nat.not_lt_zero _)
  | n + 1, i, acc, h, v, hn, hi, ha, hx, hb, hk => by
    unfold s64_1
    rw [ile]
    refine cnd_i (fun e => ?_) (fun e => ?_)
    · have e : s.length ≤ i := of_decide_eq_true e
      rw [List.drop_eq_nil_of_le e, show plainR i [] = [] by rw [plainR], show splR [] = [] by rw [splR], List.append_nil] at hk
      exact hk _ _ hx hb
    · have e : ¬ s.length ≤ i := of_decide_eq_false e
      refine c86 hl (by omega) fun h1 r x1 hr hlt hle => ?_
      refine newK_i ?_
      unfold ob163
      refine new_cp rfl rfl (by decide) fun h2 x2 hn2 ha2 => ?_
      have x12 : Exh h h2 := x1.trans x2
      have hb2 := hb.ext x12
      have hx2 := hx.trans x12
      rw [fAddr_i]
      refine ha2.ld1 (j := 2) (by show 2 < 3; decide) ?_
      show asI .i64 (.int .i64 (.ofNat r.2.2)) _
      rw [asI_k, fAddr_i]
      refine ha2.ld1 (j := 0) (by show 0 < 3; decide) ?_
      show asI .u8 (.int .u8 (Int.ofNat r.1.toNat)) _
      rw [asI_k, ieqc _ 92 (by decide)]
      refine and_q (b := decide (r.2.2 < s.length)) (fun k' hk' => by rw [show Int.ofNat r.2.2 = Int.ofNat r.2.2 from rfl, ilt]; exact hk') ?_
      have go : ¬ (r.1 = 92 ∧ ∃ h : r.2.2 < s.length, s[r.2.2] = 10) → ldn 3 (.ptr h1.next 0) h2 fun v46 =>
          oK (withElem env 161 (fun e ei => exBuildSlice 1 [(0, v46)] h2 e ei)) fun v47 h48 =>
          oK (builtinA env .append [161, 161] [v, v47] h48) fun v49 h50 =>
          (r64 W1 k (n + 1)).a1 s.length (enc s) v49 (Int.ofNat r.2.2) h50 := fun hno => by
        refine ha2.ldn rfl ?_
        unfold cel1
        refine app163 hb2 (by rw [cel_len]; omega) hx2.1 fun v' h' hb' hk' => ?_
        refine j64_1 ?_
        refine c64_1 n r.2.2 (acc ++ [r]) (by omega) hle (by rw [List.length_append, List.length_singleton]; omega) (hx2.kp (Nat.le_refl _) hk') (by rw [cel_snoc]; exact hb') fun h3 v3 a b => hk h3 v3 a ?_
        rw [hr, splR_no hno]
        rw [List.append_assoc] at b; exact b
      refine and_i (fun e2 => ?_) (fun e2 => ?_)
      · rw [Bool.and_eq_true, decide_eq_true_eq, decide_eq_true_eq] at e2
        refine natI_i (idxS_i e2.2 ?_)
        rw [ieqc _ 10 (by decide)]
        refine cnd_i (fun e3 => ?_) (fun e3 => ?_)
        · have e3 : s[r.2.2] = 10 := of_decide_eq_true e3
          refine fIadd (by omega) ?_
          refine j64_1 ?_
          refine c64_1 n (r.2.2 + 1) acc (by omega) e2.2 (by omega) hx2 hb2 fun h3 v3 a b => hk h3 v3 a ?_
          rw [hr, splR_bs e2.1 e2.2 e3]; exact b
        · refine go fun q => ?_
          obtain ⟨_, q1, q2⟩ := q
          exact absurd q2 (of_decide_eq_false e3)
      · refine cnd_f rfl (go fun q => ?_)
        obtain ⟨q0, q1, _⟩ := q
        have q0 : r.1 = UInt8.ofNat 92 := q0
        rw [decide_eq_true q0, decide_eq_true q1] at e2; cases e2
theorem c64{h:H}{k:KV}(hk:∀h' v',Exh h h'→BufN 163 3 h.next.nat h' v' (cel (standR s))→k v' h'):W1 (.func 64) [S s] h k:=by
  refine w64 (n:=s.length+2) sw_ok (g64 ?_)
  show s64_1 W1 k (r64 W1 k (s.length+1)) s.length (enc s) .nils (Int.ofNat 0) h
  exact c64_1 hl _ 0 [] (by omega) (Nat.zero_le _) (Nat.le_refl _) .refl (.inl ⟨rfl,rfl⟩) fun h' v' a b=>hk h' v' a b
end
end Go.Den
