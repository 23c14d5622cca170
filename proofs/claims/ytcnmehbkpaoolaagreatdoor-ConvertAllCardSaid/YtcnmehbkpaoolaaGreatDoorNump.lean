/-
 Proof.
-/
import Derived.Test.YtcnmehbkpaoolaaGreatDoorLaid
import Derived.KernelRfl
noncomputable section
namespace Go.Den
open Go.RowKit
set_option maxRecDepth 100000
theorem Wu{n:Nat}(h:n<256):wrap .u8 (Int.ofNat n)=Int.ofNat n:=by
 rw[Ft]
 simp[IntKind.wrap,IntKind.bits,IntKind.signed]
 omega
theorem Bah{a b:Nat}{K:Int→Prop}(hb:0<b):Asb (Int.ofNat a) (Int.ofNat b) K=K (Int.ofNat (a%b)):=by
 unfold Asb
 rw[Ld,decide_eq_false (show¬b=0 by omega)]
 show fI (Int.ofNat (a%b)) K=_
 rw[Al]
def Az0(v:Nat)(l:List UInt8):Nat:=l.foldl (fun v b=>(v*256%4294967296)|||b.toNat) v
def cvI(l:List UInt8):Int:=if 1<l.length then wrap .i64 (wrap .i32 (Int.ofNat (Az0 0 l))) else wrap .i64 (wrap .i8 (Int.ofNat (l.headD 0).toNat))
def Jj(s:List UInt8):Option (Int×Bool):=match Fj s with
 |none=>none
 |some l=>if(Ah s).1=[117,56]∨¬(s.drop (Ah s).1.length).head? =some 39∨l=[]∨8<l.length then none else some (wrap .u64 (cvI l),decide ((Ah s).1=[117])||decide ((Ah s).1=[85]))
def Aau(o:Option (Int×Bool)):AV:=match o with
 |some p=>.tuple [.agg [.int .u64 p.1,.bool p.2],.bool true]
 |none=>A0f
theorem gc2(a b:AV)(t:Tm):Da (Aj [a,b] 0 t) 2 0=[a,b]:=by
 rw[It]
 have h0:Bn (Aj [a,b] 0 t) 0=a:=by rw[Av];simp
 have h1:Bn (Aj [a,b] 0 t) 1=b:=by rw[Av];simp
 show[Bn (Aj [a,b] 0 t) (0+0),Bn (Aj [a,b] 0 t) (0+1)]=_
 rw[h0,h1]
theorem Bgi(n:Int)(b:Bool)(h:H):Bo env (env.ty 55) [(0,(.int .u64 n)),(1,(.bool b))] h=some (.agg [.int .u64 n,.bool b],h):=by kernel_rfl
theorem A0u(s:List UInt8):Bg s.length (enc s) 1 117=decide (s=[117]):=Cq (t:=[117])
theorem Bda(s:List UInt8):Bg s.length (enc s) 1 85=decide (s=[85]):=Cq (t:=[85])
theorem Bc7(s:List UInt8):Bg s.length (enc s) 2 14453=decide (s=[117,56]):=Cq (t:=[117,56])
theorem A06{p:P}{h:H}{t:Tm}{L:List UInt8}{n:Int}{m:Nat}{k:KV}(ha:h.at p=.row t 2 0 55 true)(hk:∀h',k (.tuple [.agg [.int .u64 (wrap .u64 n),.bool (decide (L=[117])||decide (L=[85]))],.bool true]) h'):(r66 W1 k (m+1)).a2 (.ptr p 0) L.length (enc L) n h:=by
 refine Bby ?_
 unfold Amk
 rw[Al]
 refine Jc ?_
 rw[A0u,Bda,Bgi,Ad]
 refine Tx ha (Nat.le_refl _) rfl (by decide) (by decide) ?_
 refine Acq (Bx _ _ _) (by decide) ?_
 rw[gc2]
 exact hk _
theorem Bit{v:Nat}{K:Int→Prop}:Ap2 .u32 (Int.ofNat v) (Int.ofNat 8) K=K (Int.ofNat (v*256%4294967296)):=by
 show fI (wrap .u32 (Int.ofNat v*2^(min 8 (IntKind.bits .u32)))) K=_
 have e:wrap .u32 (Int.ofNat v*2^(min 8 (IntKind.bits .u32)))=Int.ofNat (v*256%4294967296):=by
  rw[Ft]
  have:(2:Int)^(min 8 (IntKind.bits .u32))=256:=by decide
  rw[this]
  show IntKind.wrap .u32 ((v:Int)*256)=((v*256%4294967296:Nat):Int)
  simp[IntKind.wrap,IntKind.bits,IntKind.signed]
 rw[e,Al]
theorem wrap32{n:Nat}(h:n<4294967296):wrap .u32 (Int.ofNat n)=Int.ofNat n:=by
 rw[Ft]
 simp[IntKind.wrap,IntKind.bits,IntKind.signed]
 omega
theorem Bbo{a b:Nat}{K:Int→Prop}(ha:a<4294967296)(hb:b<4294967296):Abw Nat.lor .u32 (Int.ofNat a) (Int.ofNat b) K=K (Int.ofNat (a|||b)):=by
 show(Bool.rec False (fN (Nat.lor a b) (fun n=>K (.ofNat n))) (Ai (Nat.ble a (intMax .u32)) (Nat.ble b (intMax .u32))):Prop)=_
 rw[Nat.ble_eq_true_of_le (show a≤intMax .u32 by show a≤4294967295;omega),Nat.ble_eq_true_of_le (show b≤intMax .u32 by show b≤4294967295;omega)]
 rfl
theorem A07 {p : P} {h : H} {t : Tm} {L l : List UInt8} {k : KV} {e : Nat} (ha : h.at p = .row t 2 0 55 true) (hl : l.length ≤ 1000) : ∀ (n i v : Nat), l.length - i + e + 1 ≤ n → i ≤ l.length → (∀ n', e ≤ n' → (r66 W1 k n').a2 (.ptr p 0) L.length (enc L) (wrap .i64 (wrap .i32 (Int.ofNat (Az0 v (l.drop i))))) h) →
    (r66 W1 k n).a1 (.ptr p 0) l.length (enc l) L.length (enc L) (Int.ofNat v) (Int.ofNat l.length) (Int.ofNat i) h
  | 0, _, _, hn, _, _ => absurd hn (by omega)
  | n + 1, i, v, hn, hi, hk => by
    refine Bbz ?_
    unfold Aml
    rw [ilt]
    refine Ap (fun e' => ?_) (fun e' => ?_)
    · have e' : i < l.length := of_decide_eq_true e'
      have hd : l.drop i = l[i] :: l.drop (i + 1) := List.drop_eq_getElem_cons e'
      have hx := (l[i]).toNat_lt
      rw [Bit, Aq]
      refine Bi e' ?_
      rw [wrap32 (by omega), Al, Bbo (Nat.mod_lt _ (by decide)) (by omega), Gp (by omega), Al]
      refine A07 (e := e) ha hl n (i + 1) _ (by omega) e' ?_
      intro n' hn'
      have := hk n' hn'
      rw [hd] at this
      exact this
    · have hd : l.drop i = [] := by
        have : ¬ i < l.length := of_decide_eq_false e'
        rw [List.drop_eq_nil_iff]; omega
      have := hk n (by omega)
      rw [hd] at this
      rw [Al, Al]
      exact this
theorem c66(s:List UInt8)(hl:s.length≤549755813888):Pure PP G h0 66 [S s] (Aau (Jj s)):=by
 refine w66 (n:=1015) Bs (g66 ?_)
 unfold Amm
 refine Dt ?_
 have ha:(h0.new Ahs).at h0.next=.row (Aj [.int .u64 (Int.ofNat 0),.bool false] 0 .e) 2 0 55 true:=Ax _ _
 refine Di (c59 s hl) ?_ rfl (by cases Fj s<;>rfl)
 have bad:∀{h:H},h.at h0.next=.row (Aj [.int .u64 (Int.ofNat 0),.bool false] 0 .e) 2 0 55 true→Jj s=none→(oK (Bo env (env.ty 55) [] h) fun v30 h31=>
  stn 2 (.ptr h0.next 0) v30 h31 fun h32=>
  ldn 2 (.ptr h0.next 0) h32 fun v33=>
  (fun v (_:H)=>v=Aau (Jj s):KV) (.tuple [v33,(.bool false)]) h32):=by
  intro h ha e
  rw[b25,Ad]
  refine Tx ha (Nat.le_refl _) rfl (by decide) (by decide) ?_
  refine Acq (Bx _ _ _) (by decide) ?_
  rw[gc2]
  show AV.tuple _=_
  rw[e];rfl
 cases hb:Fj s with
 |none=>
  rw[show Tl none=.tuple [S [],.bool false] from rfl,Dn,Bp,Du,Bt]
  refine Di (c60 s) ?_
  rw[Dn,Bp,Du,Bt]
  refine Jp (fun e=>by cases e) (fun _=>?_)
  refine Jp (fun e=>by cases e) (fun _=>?_)
  refine Jp (fun e=>by cases e) (fun _=>?_)
  refine Jp (fun e=>by cases e) (fun _=>?_)
  refine Df rfl ?_
  exact bad ha (by unfold Jj;rw[hb])
 |some l=>
  have hlet:(Ah s).2=true:=by
   unfold Fj at hb
   by_cases h:(Ah s).2=true
   · exact h
   · rw[if_neg h] at hb;cases hb
  have hq:Gs (s.drop (Ah s).1.length)=true:=(Ir s De hlet).2
  have hlt:(Ah s).1.length<s.length:=by
   have hle:=Xc s
   rcases Nat.lt_or_ge (Ah s).1.length s.length with h|h
   · exact h
   · have:s.drop (Ah s).1.length=[]:=by rw[List.drop_eq_nil_iff];exact h
     rw[this] at hq;cases hq
  have hhead:(s.drop (Ah s).1.length).head? =some (s[(Ah s).1.length]):=by rw[List.drop_eq_getElem_cons hlt];rfl
  have ec:Jj s=if(Ah s).1=[117,56]∨¬some (s[(Ah s).1.length])=some 39∨l=[]∨8<l.length then none else some (wrap .u64 (cvI l),decide ((Ah s).1=[117])||decide ((Ah s).1=[85])):=by
   unfold Jj;rw[hb,hhead]
  rw[show Tl (some l)=.tuple [S l,.bool true] from rfl,Dn,Bp,Du,Bt]
  refine Di (c60 s) ?_
  rw[Dn,Bp,Du,Bt]
  refine Jc ?_
  rw[Bc7]
  refine Jp (fun e=>?_) (fun e=>?_)
  · refine Bi hlt ?_
    rw[toNat_eq _ 39 (by decide),Bj]
    refine Jc ?_
    rw[Fb]
    refine Jc ?_
    rw[ilt]
    have e1:¬(Ah s).1=[117,56]:=by simpa using e
    refine Ap (fun e2=>?_) (fun e2=>?_)
    · refine bad ha ?_
      rw[ec]
      refine if_pos ?_
      simp only[Bool.or_eq_true,Bool.not_eq_true',decide_eq_true_eq,decide_eq_false_iff_not] at e2
      rcases e2 with(e2|e2)|e2
      · exact .inr (.inl fun h=>e2 (Option.some.inj h))
      · exact .inr (.inr (.inl e2))
      · exact .inr (.inr (.inr e2))
    · simp only[Bool.or_eq_false_iff,Bool.not_eq_false',decide_eq_false_iff_not,decide_eq_true_eq] at e2
      obtain⟨⟨e2,e3⟩,e4⟩:=e2
      have ec:Jj s=some (wrap .u64 (cvI l),decide ((Ah s).1=[117])||decide ((Ah s).1=[85])):=by
       rw[ec,if_neg]
       rintro(h|h|h|h)
       · exact e1 h
       · exact h (congrArg some e2)
       · exact e3 h
       · exact e4 h
      have hpos:0<l.length:=by
       cases l with
       |nil=>exact absurd rfl e3
       |cons _ _=>simp
      refine Bi hpos ?_
      rw[Al,Al,ilt]
      refine Ap (fun e5=>?_) (fun e5=>?_)
      · have e5:1<l.length:=of_decide_eq_true e5
        refine A07 (e:=1) ha (by omega) 1014 0 0 (by omega) (Nat.zero_le _) ?_
        intro n' hn'
        obtain⟨n',rfl⟩:∃m,n'=m+1:=⟨n'-1,by omega⟩
        refine A06 ha fun h'=>?_
        show AV.tuple _=_
        rw[ec]
        show AV.tuple _=AV.tuple _
        unfold cvI
        rw[if_pos e5,List.drop_zero]
      · have e5:¬1<l.length:=of_decide_eq_false e5
        refine A06 ha fun h'=>?_
        show AV.tuple _=_
        rw[ec]
        show AV.tuple _=AV.tuple _
        unfold cvI
        rw[if_neg e5]
        have:l.headD 0=l[0]:=by
         cases l with
         |nil=>exact absurd rfl e3
         |cons _ _=>rfl
        rw[this]
  · refine Jp (fun e=>by cases e) (fun _=>?_)
    refine Jp (fun e=>by cases e) (fun _=>?_)
    refine Df rfl ?_
    refine bad ha ?_
    rw[ec]
    exact if_pos (.inl (by simpa using e))
def Fy(c:UInt8):Nat:=if c.toNat≤57 then c.toNat-48 else if c.toNat≤70 then c.toNat-55 else c.toNat-87
def Hf(B v:Nat)(l:List UInt8):Nat:=l.foldl (fun v c=>v*B+Fy c) v
theorem Xx{B:Nat}(hB:1≤B):∀(l:List UInt8)(v:Nat),v≤Hf B v l
 |[],_=>Nat.le_refl _
 |c::l,v=>Nat.le_trans (Nat.le_trans (Nat.le_mul_of_pos_right v hB) (Nat.le_add_right _ _)) (Xx hB l (v*B+Fy c))
theorem Ac8{x:UInt8}{K:Int→Prop}:asI .u8 (ub x) K=K (Int.ofNat x.toNat):=rfl
theorem Al1(n:Nat):wrap .u64 (Int.ofNat n)=Int.ofNat (n%18446744073709551616):=by
 rw[Ft]
 simp[IntKind.wrap,IntKind.bits,IntKind.signed]
theorem Kz{n:Nat}(h:n<18446744073709551616):wrap .u64 (Int.ofNat n)=Int.ofNat n:=by rw[Al1,Nat.mod_eq_of_lt h]
theorem A7r(x:UInt8):Pure PP G h0 221 [.int .u8 (Int.ofNat x.toNat)] (.int .u8 (Int.ofNat (x.toNat|||32))):=by
 refine A8l (n:=1) Bs (Bji ?_)
 unfold Ady
 show(Bool.rec False (fN (Nat.lor x.toNat 32) (fun n=>_)) (Ai (Nat.ble x.toNat (intMax .u8)) (Nat.ble 32 (intMax .u8))):Prop)
 rw[Nat.ble_eq_true_of_le (show x.toNat≤intMax .u8 by have:=x.toNat_lt;show x.toNat≤255;omega)]
 show fN (Nat.lor x.toNat 32) _
 rw[Bc3];rfl
theorem Ayx:∀x∈Ec,57<x.toNat→97≤(x.toNat|||32)∧(x.toNat|||32)≤122∧Fy x=(x.toNat|||32)-87∧48≤x.toNat:=by decide
theorem Aui:∀x∈Ec,48≤x.toNat∧x.toNat≠95∧Fy x<16:=by decide
def puV(v:Nat):AV:=if v<18446744073709551616 then .tuple [.int .u64 (Int.ofNat v),.Ia] else .tuple [.int .u64 (Int.ofNat 18446744073709551615),.iface 304 (.int .i64 (Int.ofNat 1))]
abbrev M64:Nat:=18446744073709551615
def Frame(h h':H):Prop:=h.next.nat≤h'.next.nat∧∀c,c.nat<h.next.nat→h'.at c=h.at c
theorem Ae8{h:H}{q:P}{t:Tm}{m z n:Nat}{e:TypeId}{w ti:Bool}{l:List UInt8}(ha:h.at q=.row t m z e w)(hm:l.length≤m)(hc:Dq t l){i:Nat}(hi:i<l.length)(hn:n=l.length){K:AV→Prop}(hk:K (ub l[i])):Dd 1 i (.slice q 0 n 1 ti) fun v'=>ld1 v' h K:=by
 subst hn
 show(Bool.rec Am (fN (Nat.add 0 (Nat.mul i 1)) (fun q'=>ld1 (.ptr q q') h K)) (Ai (Nat.ble (Nat.add i 1) l.length) (Nat.beq 1 1)):Prop)
 rw[Nat.ble_eq_true_of_le (show Nat.add i 1≤l.length from hi)]
 have e1:Nat.add 0 (Nat.mul i 1)=i:=by show 0+i*1=i;omega
 rw[e1]
 show ld1 (.ptr q i) h K
 refine Dg ha (by omega) ?_
 rw[hc i hi];exact hk
section
variable{B:Nat}{s s0 set:List UInt8}{q:P}{t:Tm}{h:H}{k:KV}
theorem Av4 (hB : 2 ≤ B ∧ B ≤ 16) (hset : ∀ x ∈ s, x ∈ Ec ∧ Fy x < B) (hl : s.length ≤ 1099511627776) (ha : h.at q = .row t s.length 0 TB false) (hc : Dq t s) : ∀ (n i v : Nat), 2 * (s.length - i) + 1 ≤ n → i ≤ s.length → v ≤ M64 → k (puV (Hf B v (s.drop i))) h →
    (Pm W1 k n).a1 (Int.ofNat B) false s0.length (enc s0) (Int.ofNat (M64 / B + 1)) (Int.ofNat M64) false (Int.ofNat v) (.slice q 0 s.length 1 false) (Int.ofNat s.length) (Int.ofNat i) h
  | 0, _, _, hn, _, _, _ => absurd hn (by omega)
  | n + 1, i, v, hn, hi, hv, hk => by
    refine A4q ?_
    unfold Ad8
    rw [ilt]
    by_cases e : i < s.length
    · refine Df (decide_eq_true e) ?_
      have hd : s.drop i = s[i] :: s.drop (i + 1) := List.drop_eq_getElem_cons e
      obtain ⟨hx, hdg⟩ := hset _ (List.getElem_mem e)
      obtain ⟨h48, h95, h16⟩ := Aui _ hx
      have h256 := (s[i]).toNat_lt
      have step : ∀ (h2 : h = h), (Pm W1 k n).a2 (Int.ofNat B) false s0.length (enc s0) (Int.ofNat (M64 / B + 1)) (Int.ofNat M64) false (Int.ofNat v) (Int.ofNat (Fy s[i])) (.slice q 0 s.length 1 false) (Int.ofNat s.length) (Int.ofNat i) h := by
        intro _
        obtain ⟨n, rfl⟩ : ∃ n', n = n' + 1 := ⟨n - 1, by omega⟩
        refine A4p ?_
        unfold Ad7
        rw [Wu (show B < 256 by omega), Al, ile]
        refine Cm (decide_eq_false (by omega)) ?_
        rw [ile]
        have hq := Nat.div_add_mod M64 B
        have hqm := Nat.mod_lt M64 (show 0 < B by omega)
        refine Ap (fun e1 => ?_) (fun e1 => ?_)
        · have e1 : M64 / B + 1 ≤ v := of_decide_eq_true e1
          have h1 : M64 < v * B := by
            have : (M64 / B + 1) * B ≤ v * B := Nat.mul_le_mul_right B e1
            rw [Nat.add_mul, Nat.one_mul] at this
            rw [Nat.mul_comm] at hq
            omega
          rw [hd] at hk
          have h2 : v * B + Fy s[i] ≤ Hf B v (s[i] :: s.drop (i + 1)) := Xx (by omega) _ _
          unfold puV at hk
          rw [if_neg (by show ¬ _ < M64 + 1; omega)] at hk
          exact hk
        · have e1 : ¬ M64 / B + 1 ≤ v := of_decide_eq_false e1
          have h1 : v * B ≤ M64 := by
            have : v * B ≤ M64 / B * B := Nat.mul_le_mul_right B (by omega)
            rw [Nat.mul_comm] at hq
            omega
          have hB64 : B < 18446744073709551616 := by omega
          rw [Kz hB64, Al, show Int.ofNat v * Int.ofNat B = Int.ofNat (v * B) from rfl, Kz (show v * B < M64 + 1 by omega), Al, Kz (show Fy s[i] < M64 + 1 by show _ < 18446744073709551616; omega), Al, Ea, Al1, Al, ilt]
          refine Jc ?_
          rw [ilt]
          refine Ap (fun e2 => ?_) (fun e2 => ?_)
          · have h3 : M64 < v * B + Fy s[i] := by
              simp only [Bool.or_eq_true, decide_eq_true_eq] at e2
              rcases e2 with e2 | e2
              · rcases Nat.lt_or_ge M64 (v * B + Fy s[i]) with h | h
                · exact h
                · rw [Nat.mod_eq_of_lt (show _ < M64 + 1 by omega)] at e2; omega
              · have := Nat.mod_lt (v * B + Fy s[i]) (show 0 < 18446744073709551616 by decide)
                have e2 : M64 < (v * B + Fy s[i]) % 18446744073709551616 := e2
                have : (v * B + Fy s[i]) % 18446744073709551616 < M64 + 1 := this
                omega
            rw [hd] at hk
            have h2 : v * B + Fy s[i] ≤ Hf B v (s[i] :: s.drop (i + 1)) := Xx (by omega) _ _
            unfold puV at hk
            rw [if_neg (by show ¬ _ < M64 + 1; omega)] at hk
            exact hk
          · have h3 : v * B + Fy s[i] ≤ M64 := by
              simp only [Bool.or_eq_false_iff, decide_eq_false_iff_not] at e2
              rcases Nat.lt_or_ge M64 (v * B + Fy s[i]) with h | h
              · exfalso
                have e3 : (v * B + Fy s[i]) % 18446744073709551616 = v * B + Fy s[i] - 18446744073709551616 := by
                  rw [Nat.mod_eq_sub_mod (show 18446744073709551616 ≤ v * B + Fy s[i] from h), Nat.mod_eq_of_lt (by have : v * B ≤ 18446744073709551615 := h1; omega)]
                rw [e3] at e2
                have : v * B ≤ 18446744073709551615 := h1
                omega
              · exact h
            rw [Gp (by omega), Al, Nat.mod_eq_of_lt (show _ < M64 + 1 by omega)]
            refine Av4 hB hset hl ha hc n (i + 1) _ (by omega) e h3 ?_
            rw [hd] at hk
            exact hk
      rw [Aq]
      refine Ae8 ha (Nat.le_refl _) hc e rfl ?_
      rw [Ac8]
      refine Sp ?_
      refine Cm (by rw [Bool.and_false]) ?_
      refine Sp ?_
      rw [ile, ile]
      by_cases e1 : (s[i]).toNat ≤ 57
      · refine Df (by rw [decide_eq_true h48, decide_eq_true e1]; rfl) ?_
        rw [Xe h48, Wu (by omega), Al]
        have : (s[i]).toNat - 48 = Fy s[i] := by unfold Fy; rw [if_pos e1]
        rw [this]
        exact step rfl
      · refine Cm (by rw [decide_eq_false e1, Bool.and_false]) ?_
        obtain ⟨g1, g2, g3, _⟩ := Ayx _ hx (by omega)
        refine Di (A7r s[i]) ?_
        rw [Bu, ile]
        refine Vu (b := true) (fun k' hk' => ?_) ?_
        · refine Di (A7r s[i]) ?_
          rw [Bu, ile, decide_eq_true g2]; exact hk'
        refine Df (by rw [decide_eq_true g1]; rfl) ?_
        refine Di (A7r s[i]) ?_
        rw [Bu, Xe g1, Wu (by omega), Al, Ea, Wu (by omega), Al]
        rw [show ((s[i]).toNat ||| 32) - 97 + 10 = Fy s[i] by rw [g3]; omega]
        exact step rfl
    · refine Cm (decide_eq_false e) ?_
      have hd : s.drop i = [] := by rw [List.drop_eq_nil_iff]; omega
      rw [hd] at hk
      have hk : k (puV v) h := hk
      unfold puV at hk
      rw [if_pos (show v < M64 + 1 by omega)] at hk
      refine Dp (fun e => by cases e) (fun _ => ?_)
      exact Cm rfl hk
end
theorem cv9(l c:Nat)(h:H):Fz env h 9 115 (.str l c)=some (.slice h.next 0 l 1 false,h.new (.row (Aj (byteCells l c) 0 .e) l 0 TB false)):=by kernel_rfl
theorem Ac5:∀l:List UInt8,byteCells l.length (enc l)=ubs l
 |[]=>rfl
 |x::l=>by
  obtain⟨h1,h2⟩:=Rn x l
  show(.int .u8 (.ofNat (Nat.mod (enc (x::l)) 256))::byteCells l.length (Nat.div (enc (x::l)) 256):List AV)=_
  rw[h1,h2,Ac5 l];rfl
theorem Bad{K:Int→Prop}:Ap2 .u64 (Int.ofNat 1) (Int.ofNat 64) K=K (Int.ofNat 0):=by
 have e:wrap .u64 (Int.ofNat 1*2^(min 64 (IntKind.bits .u64)))=Int.ofNat 0:=by kernel_rfl
 show fI (wrap .u64 (Int.ofNat 1*2^(min 64 (IntKind.bits .u64)))) K=_
 rw[e,Al]
theorem Bak{K:Int→Prop}:Akd .u64 (Int.ofNat 18446744073709551615) (Int.ofNat 8) K=K (Int.ofNat (M64 / 8)):=by
 have e:wrap .u64 ((Int.ofNat 18446744073709551615).tdiv (Int.ofNat 8))=Int.ofNat (M64 / 8):=by kernel_rfl
 show fI (wrap .u64 ((Int.ofNat 18446744073709551615).tdiv (Int.ofNat 8))) K=_
 rw[e,Al]
theorem Bk2{B:Nat}{s:List UInt8}{h:H}{k:KV}(hB:B=8∨B=10∨B=16)(hne:s≠[])(hset:∀x∈s,x∈Ec∧Fy x<B)(hl:s.length≤1099511627776)(hk:∀h',Frame h h'→k (puV (Hf B 0 s)) h'):W1 (.func 173) [S s,.int .i64 (Int.ofNat B),.int .i64 (Int.ofNat 64)] h k:=by
 refine A8q (n:=2*s.length+20) Bs (Bjn ?_)
 unfold Ad9
 have e0:Bg s.length (enc s) 0 0=false:=by rw[Fb];exact decide_eq_false hne
 refine Cm e0 ?_
 refine Sp ?_
 have hB2:2≤B∧B≤16:=by omega
 refine Df (by rw[ile,ile,decide_eq_true (show 2≤B by omega),decide_eq_true (show B≤36 by omega)];rfl) ?_
 rw[Ld,decide_eq_false (show¬B=0 by omega)]
 refine A4m ?_
 unfold Ad4
 refine Cm rfl ?_
 refine Jc ?_
 refine Cm rfl ?_
 refine A4n ?_
 unfold Ad5
 have main:∀n,2*s.length+2≤n→(Pm W1 k n).a3 s.length (enc s) (Int.ofNat B) (Int.ofNat 64) false s.length (enc s) (Int.ofNat (M64 / B+1)) h:=by
  intro n hn
  obtain⟨n,rfl⟩:∃n',n=n'+1:=⟨n-1,by omega⟩
  refine A4o ?_
  unfold Ad6
  rw[show wrap .u64 (Int.ofNat 64)=Int.ofNat 64 by kernel_rfl,Al]
  rw[Bad,show wrap .u64 (Hw (Int.ofNat 0) (Int.ofNat 1))=Int.ofNat M64 by kernel_rfl,Al,cv9,Ad,Me,Ac5]
  refine Av4 hB2 hset hl (Ax _ _) (Dq.new s .e) n 0 0 (by omega) (Nat.zero_le _) (Nat.zero_le _) ?_
  rw[List.drop_zero]
  exact hk _ ⟨by rw[Bh];omega,fun c hc=>Dw hc⟩
 rcases hB with rfl|rfl|rfl
 · refine Cm rfl ?_
   refine Cm rfl ?_
   rw[show wrap .u64 (Int.ofNat 8)=Int.ofNat 8 by kernel_rfl,Al]
   rw[Bak,show wrap .u64 (Cd (Int.ofNat (M64 / 8)) (Int.ofNat 1))=Int.ofNat (M64 / 8+1) by kernel_rfl,Al]
   exact main _ (by omega)
 · refine Df rfl ?_
   exact main _ (by omega)
 · refine Cm rfl ?_
   refine Df rfl ?_
   exact main _ (by omega)
theorem Atp(t:TypeId)(v:AV):Jk env .neq 151 (.iface t v) .Ia=some (.bool true):=by kernel_rfl
theorem Ato:Jk env .neq 151 .Ia .Ia=some (.bool false):=by kernel_rfl
theorem Blc{B:Nat}{s:List UInt8}{h:H}{k:KV}(he:Lw h)(hB:B=8∨B=10∨B=16)(hne:s≠[])(hset:∀x∈s,x∈Ec∧Fy x<B)(hl:s.length≤1099511627776)
 (hk1:Hf B 0 s<18446744073709551616→∀h',Frame h h'→k (.tuple [.int .u64 (Int.ofNat (Hf B 0 s)),.Ia]) h') (hk2:¬Hf B 0 s<18446744073709551616→∀h' p,Frame h h'→k (.tuple [.int .u64 (Int.ofNat 18446744073709551615),.iface 306 (.ptr p 0)]) h'):W1 (.func 117) [S s,.int .i64 (Int.ofNat B),.int .i64 (Int.ofNat 64)] h k:=by
 refine A84 (n:=1) Bs (Bj2 ?_)
 unfold Aev
 refine Bk2 hB hne hset hl fun h' hf=>?_
 unfold puV
 by_cases e:Hf B 0 s<18446744073709551616
 · rw[if_pos e,Dn,Bu,Du,Ato,Ih,Bt]
   refine Cm rfl ?_
   exact hk1 e h' hf
 · rw[if_neg e,Dn,Bu,Du,Atp,Ih,Bt]
   refine Df rfl ?_
   refine Bk1 (fn:=[80,97,114,115,101,85,105,110,116]) ?_
   refine Bkw (he.keep hf.1 hf.2) hl fun h2 p hn2 hf2=>⟨p,rfl,?_⟩
   exact hk2 e h2 p ⟨Nat.le_trans hf.1 hn2,fun c hc=>by rw[hf2 c (Nat.lt_of_lt_of_le hc hf.1),hf.2 c hc]⟩
end Go.Den
namespace Go.Den
open Go.RowKit
set_option maxRecDepth 100000
def Pk(r:List UInt8):Bool:=decide (r=[])||decide (r=[108])||decide (r=[76])||decide (r=[108,108])||decide (r=[76,76])
def Xs(c:UInt8):Bool:=decide (c=117)||decide (c=85)
def We(s:List UInt8):Bool:=match s.getLast? with
 |some c=>Xs c
 |none=>false
def Jb(s:List UInt8):Bool×Bool:=match s with
 |[]=>(false,true)
 |c::t=>if Xs c then(true,Pk t) else if We (c::t) then(true,Pk (c::t).dropLast) else(false,Pk (c::t))
theorem Bkg(s:List UInt8):Bg s.length (enc s) 2 27756=decide (s=[108,108]):=Cq (t:=[108,108])
theorem Bkh(s:List UInt8):Bg s.length (enc s) 2 19532=decide (s=[76,76]):=Cq (t:=[76,76])
theorem Agd{r:List UInt8}{u:Bool}{h:H}{k:KV}{n:Nat}(hk:k (.tuple [.bool u,.bool (Pk r)]) h):(Ahi W1 k (n+1)).a1 r.length (enc r) u h:=by
 refine A4y ?_
 unfold Aey
 refine Jc ?_
 refine Jc ?_
 refine Jc ?_
 refine Jc ?_
 rw[Fb,A0v,Bdb,Bkg,Bkh]
 exact hk
theorem Ble(s:List UInt8)(hl:s.length≤1099511627776):Pure PP G h0 113 [S s] (.tuple [.bool (Jb s).1,.bool (Jb s).2]):=by
 refine A88 (n:=2) Bs (Bj6 ?_)
 unfold Aez
 cases s with
 |nil=>
  refine Df rfl ?_
  exact Agd (r:=[]) rfl
 |cons c t=>
  refine Cm (Ll c t) ?_
  refine Bi (s:=c::t) (Nat.zero_lt_succ _) ?_
  refine Ma (b:=decide (c=85)) (fun k' hk'=>?_) ?_
  · refine Bi (s:=c::t) (Nat.zero_lt_succ _) ?_
    rw[List.getElem_cons_zero,toNat_eq _ 85 (by decide)];exact hk'
  rw[List.getElem_cons_zero,toNat_eq _ 117 (by decide)]
  refine Ap (fun e=>?_) (fun e=>?_)
  · have e:Xs c=true:=e
    refine Fl (s:=c::t) (Nat.le_add_left 1 _) ?_
    refine Agd (r:=t) ?_
    show AV.tuple _=AV.tuple _
    have:Jb (c::t)=(true,Pk t):=if_pos e
    rw[this]
  · have e:¬Xs c=true:=fun h=>by rw[show Xs c=false from e] at h;cases h
    have h1:1≤(c::t).length:=Nat.le_add_left 1 _
    have h2:(c::t).length-1<(c::t).length:=by omega
    have hlast:(c::t).getLast? =some ((c::t)[(c::t).length-1]):=by rw[List.getLast?_eq_getElem?,List.getElem?_eq_getElem h2]
    have hlu:We (c::t)=Xs ((c::t)[(c::t).length-1]):=by unfold We;rw[hlast]
    rw[Aig h1 (by omega),Al,Aq]
    refine Bi h2 ?_
    refine Ma (b:=decide ((c::t)[(c::t).length-1]=85)) (fun k' hk'=>?_) ?_
    · rw[Al,Aq]
      refine Bi h2 ?_
      rw[toNat_eq _ 85 (by decide)];exact hk'
    rw[toNat_eq _ 117 (by decide)]
    refine Ap (fun e2=>?_) (fun e2=>?_)
    · have e2:Xs ((c::t)[(c::t).length-1])=true:=e2
      rw[Al,Aq]
      refine Wl (by omega) ?_
      refine Agd ?_
      show AV.tuple _=AV.tuple _
      have:Jb (c::t)=(true,Pk (c::t).dropLast):=by
       show(if Xs c then(true,Pk t) else if We (c::t) then(true,Pk (c::t).dropLast) else(false,Pk (c::t)))=_
       rw[if_neg e,hlu,if_pos e2]
      rw[this,List.dropLast_eq_take]
    · have e2:¬Xs ((c::t)[(c::t).length-1])=true:=fun h=>by rw[show Xs ((c::t)[(c::t).length-1])=false from e2] at h;cases h
      refine Agd ?_
      show AV.tuple _=AV.tuple _
      have:Jb (c::t)=(false,Pk (c::t)):=by
       show(if Xs c then(true,Pk t) else if We (c::t) then(true,Pk (c::t).dropLast) else(false,Pk (c::t)))=_
       rw[if_neg e,hlu,if_neg e2]
      rw[this]
def Afh(u ok:Bool)(B:Nat)(set dd:List UInt8):Option (Nat×Bool):=
 if(!ok||decide (dd=[])||!decide (Ay dd set=dd.length))=true then none else if Hf B 0 dd<18446744073709551616 then some (Hf B 0 dd,u||decide (9223372036854775807<Hf B 0 dd)) else none
def Afg(s:List UInt8):Option (Nat×Bool):=
 if Ev (Ff s Gg)=true then Afh (Jb (s.drop (Ff s Gg).length)).1 (Jb (s.drop (Ff s Gg).length)).2 16 Ec ((Ff s Gg).drop 2)
 else if(Ff s Gg).take 1=[48] then Afh (Jb (s.drop (Ff s Gg).length)).1 (Jb (s.drop (Ff s Gg).length)).2 8 Pn (Ff s Gg)
 else Afh (Jb (s.drop (Ff s Gg).length)).1 (Jb (s.drop (Ff s Gg).length)).2 10 Ek (Ff s Gg)
def Xr(o:Option (Nat×Bool)):AV:=match o with
 |some p=>.tuple [.agg [.int .u64 (Int.ofNat p.1),.bool p.2],.bool true]
 |none=>A0f
theorem Alg{p:P}{h:H}{t:Tm}{u ok:Bool}{B n:Nat}{set dd:List UInt8}{k:KV}(he:Lw h)(ha:h.at p=.row t 2 0 55 true)(hp:p.nat<h.next.nat)(hs:Ui set)(h2:2≤set.length)(hset:∀x∈set,x∈Ec∧Fy x<B)(hB:B=8∨B=10∨B=16)(hl:dd.length≤1099511627776)
 (hk:∀h',k (Xr (Afh u ok B set dd)) h'):(r64 W1 k (n+1)).a1 (.ptr p 0) dd.length (enc dd) u ok (Int.ofNat B) set.length (enc set) h:=by
 refine Bb2 ?_
 unfold Amq
 have bad:Afh u ok B set dd=none→∀h:H,h.at p=.row t 2 0 55 true→(oK (Bo env (env.ty 55) [] h) fun v32 h33=>
  stn 2 (.ptr p 0) v32 h33 fun h34=>
  ldn 2 (.ptr p 0) h34 fun v35=>
  k (.tuple [v35,(.bool false)]) h34):=by
  intro e h ha
  rw[b25,Ad]
  refine Tx ha (Nat.le_refl _) rfl (by decide) (by decide) ?_
  refine Acq (Bx _ _ _) (by decide) ?_
  rw[gc2]
  have:=hk (h.put p (.row (Aj [.int .u64 (Int.ofNat 0),.bool false] 0 t) 2 0 55 true))
  rw[e] at this
  exact this
 refine Jc ?_
 rw[Fb,Bj]
 refine Ma (b:=!decide (Ay dd set=dd.length)) (fun k' hk'=>?_) ?_
 · refine Di (Aq4 hs h2 dd (by omega)) ?_
   rw[Bu,Ld,Bj];exact hk'
 refine Ap (fun e=>?_) (fun e=>?_)
 · exact bad (if_pos e) h ha
 · have en:Afh u ok B set dd=if Hf B 0 dd<18446744073709551616 then some (Hf B 0 dd,u||decide (9223372036854775807<Hf B 0 dd)) else none:=if_neg (by rw[e];simp)
   simp only[Bool.or_eq_false_iff,Bool.not_eq_false',decide_eq_true_eq,decide_eq_false_iff_not] at e
   obtain⟨⟨_,e1⟩,e2⟩:=e
   have hall:∀x∈dd,x∈Ec∧Fy x<B:=fun x hx=>hset x (Rf (s:=dd) (set:=set) (n:=dd.length) (by omega) (by rw[List.take_length];exact hx))
   refine Blc he hB e1 hall hl (fun hv h' hf=>?_) (fun hv h' q hf=>?_)
   · rw[if_pos hv] at en
     have ha':h'.at p=.row t 2 0 55 true:=by rw[hf.2 p hp];exact ha
     rw[Dn,Bu,Du,Ato,Ih,Bt]
     refine Cm rfl ?_
     refine Jc ?_
     rw[ilt,Bgi,Ad]
     refine Tx ha' (Nat.le_refl _) rfl (by decide) (by decide) ?_
     refine Acq (Bx _ _ _) (by decide) ?_
     rw[gc2]
     have:=hk (h'.put p (.row (Aj [.int .u64 (Int.ofNat (Hf B 0 dd)),.bool (u||decide (9223372036854775807<Hf B 0 dd))] 0 t) 2 0 55 true))
     rw[en] at this
     exact this
   · rw[if_neg hv] at en
     have ha':h'.at p=.row t 2 0 55 true:=by rw[hf.2 p hp];exact ha
     rw[Dn,Bu,Du,Atp,Ih,Bt]
     refine Df rfl ?_
     exact bad en h' ha'
theorem Ar8(s set:List UInt8):(Ff s set).length≤s.length:=by
 unfold Ff
 rw[List.length_reverse]
 have:=(List.dropWhile_sublist (l:=s.reverse) (·∈set)).length_le
 rw[List.length_reverse] at this;exact this
theorem Ax7:∀x∈Ec,x∈Ec∧Fy x<16:=by decide
theorem Ax6:∀x∈Pn,x∈Ec∧Fy x<8:=by decide
theorem Ax8:∀x∈Ek,x∈Ec∧Fy x<10:=by decide
theorem c64(s:List UInt8)(hl:s.length≤1099511627776):Pure PP G h1 64 [S s] (Xr (Afg s)):=by
 refine w64 (n:=2) Bs (g64 ?_)
 unfold Amr
 refine Dt ?_
 have he:Lw (h1.new Ahs):=Ay0.new
 have ha:(h1.new Ahs).at h1.next=.row (Aj [.int .u64 (Int.ofNat 0),.bool false] 0 .e) 2 0 55 true:=Ax _ _
 have hp:h1.next.nat<(h1.new Ahs).next.nat:=by rw[Bh];omega
 refine Di (Blf A20 (by decide) s (by omega)) ?_
 rw[Bp]
 have hd:=Ar8 s Gg
 refine Fl hd ?_
 refine Di (Ble (s.drop (Ff s Gg).length) (by rw[List.length_drop];omega)) ?_
 rw[Dn,Bt,Du,Bt]
 refine Di (Bgd (Ff s Gg)) ?_
 rw[Bt]
 refine Ap (fun e=>?_) (fun e=>?_)
 · have h2:2≤(Ff s Gg).length:=by
    have e:=e
    unfold Ev at e
    rw[Bool.or_eq_true,decide_eq_true_eq,decide_eq_true_eq] at e
    rcases e with e|e<;>(have:=congrArg List.length e;simp[hx1,hx2] at this;omega)
   refine Fl h2 ?_
   refine Alg (B:=16) (set:=Ec) he ha hp Akw (by decide) Ax7 (by decide) (by rw[List.length_drop];omega) fun h'=>?_
   show Xr _=Xr _
   unfold Afg;rw[if_pos e]
 · have e:¬Ev (Ff s Gg)=true:=by rw[e];simp
   refine Di (Azs (Ff s Gg) [48]) ?_
   rw[Bt]
   refine Ap (fun e2=>?_) (fun e2=>?_)
   · have e2:(Ff s Gg).take 1=[48]:=of_decide_eq_true e2
     refine Alg (B:=8) (set:=Pn) he ha hp Ati (by decide) Ax6 (by decide) (by omega) fun h'=>?_
     show Xr _=Xr _
     unfold Afg;rw[if_neg e,if_pos e2]
   · have e2:¬(Ff s Gg).take 1=[48]:=of_decide_eq_false e2
     refine Alg (B:=10) (set:=Ek) he ha hp Ak5 (by decide) Ax8 (by decide) (by omega) fun h'=>?_
     show Xr _=Xr _
     unfold Afg;rw[if_neg e,if_neg e2]
end Go.Den
