/-
 Proof.
-/
import Derived.Test.YtcnmehbkpaoolaaGreatDoorLaid
import Derived.KernelRfl
noncomputable section
namespace Go.Den
open Go.RowKit
set_option maxRecDepth 100000
theorem Aml{n:Nat}(h:n<256):wrap .u8 (Int.ofNat n)=Int.ofNat n:=by
 rw[Fy]
 simp[IntKind.wrap,IntKind.bits,IntKind.signed]
 omega
def Bg2(v:Nat)(l:List UInt8):Nat:=l.foldl (fun v b=>(v*256%4294967296)|||b.toNat) v
def cvI(l:List UInt8):Int:=if 1<l.length then wrap .i64 (wrap .i32 (Int.ofNat (Bg2 0 l))) else wrap .i64 (wrap .i8 (Int.ofNat (l.headD 0).toNat))
def Vf(s:List UInt8):Option (Int×Bool):=match Le s with
 |none=>none
 |some l=>if(Bb s).1=[117,56]∨¬(s.drop (Bb s).1.length).head? =some 39∨l=[]∨8<l.length then none else some (wrap .u64 (cvI l),decide ((Bb s).1=[117])||decide ((Bb s).1=[85]))
def Avo(o:Option (Int×Bool)):AV:=match o with
 |some p=>.tuple [.agg [.int .u64 p.1,.bool p.2],.bool true]
 |none=>A1a
theorem gc2(a b:AV)(t:Tm):Cq (Ai [a,b] 0 t) 2 0=[a,b]:=by
 rw[Gt]
 have h0:Bh (Ai [a,b] 0 t) 0=a:=by rw[Ar];simp
 have h1:Bh (Ai [a,b] 0 t) 1=b:=by rw[Ar];simp
 show[Bh (Ai [a,b] 0 t) (0+0),Bh (Ai [a,b] 0 t) (0+1)]=_
 rw[h0,h1]
theorem Bgm(n:Int)(b:Bool)(h:H):Bp env (env.ty 55) [(0,(.int .u64 n)),(1,(.bool b))] h=some (.agg [.int .u64 n,.bool b],h):=by kernel_rfl
theorem Bef(s:List UInt8):Bm s.length (enc s) 1 117=decide (s=[117]):=Df (t:=[117])
theorem Bk8(s:List UInt8):Bm s.length (enc s) 1 85=decide (s=[85]):=Df (t:=[85])
theorem Bk5(s:List UInt8):Bm s.length (enc s) 2 14453=decide (s=[117,56]):=Df (t:=[117,56])
theorem A1x{p:P}{h:H}{t:Tm}{L:List UInt8}{n:Int}{m:Nat}{k:KV}(ha:h.at p=.row t 2 0 55 true)(hk:∀h',k (.tuple [.agg [.int .u64 (wrap .u64 n),.bool (decide (L=[117])||decide (L=[85]))],.bool true]) h'):(r66 W1 k (m+1)).a2 (.ptr p 0) L.length (enc L) n h:=by
 refine Bdm ?_
 unfold Am0
 rw[As]
 refine Jx ?_
 rw[Bef,Bk8,Bgm,Ae]
 refine Tp ha (Nat.le_refl _) rfl (by decide) (by decide) ?_
 refine Acn (Bk _ _ _) (by decide) ?_
 rw[gc2]
 exact hk _
theorem Bi1{v:Nat}{K:Int→Prop}:Apm .u32 (Int.ofNat v) (Int.ofNat 8) K=K (Int.ofNat (v*256%4294967296)):=by
 show fI (wrap .u32 (Int.ofNat v*2^(min 8 (IntKind.bits .u32)))) K=_
 have e:wrap .u32 (Int.ofNat v*2^(min 8 (IntKind.bits .u32)))=Int.ofNat (v*256%4294967296):=by
  rw[Fy]
  have:(2:Int)^(min 8 (IntKind.bits .u32))=256:=by decide
  rw[this]
  show IntKind.wrap .u32 ((v:Int)*256)=((v*256%4294967296:Nat):Int)
  simp[IntKind.wrap,IntKind.bits,IntKind.signed]
 rw[e,As]
theorem wrap32{n:Nat}(h:n<4294967296):wrap .u32 (Int.ofNat n)=Int.ofNat n:=by
 rw[Fy]
 simp[IntKind.wrap,IntKind.bits,IntKind.signed]
 omega
theorem Bdf{a b:Nat}{K:Int→Prop}(ha:a<4294967296)(hb:b<4294967296):Aby Nat.lor .u32 (Int.ofNat a) (Int.ofNat b) K=K (Int.ofNat (a|||b)):=by
 show(Bool.rec False (fN (Nat.lor a b) (fun n=>K (.ofNat n))) (Ah (Nat.ble a (intMax .u32)) (Nat.ble b (intMax .u32))):Prop)=_
 rw[Nat.ble_eq_true_of_le (show a≤intMax .u32 by show a≤4294967295;omega),Nat.ble_eq_true_of_le (show b≤intMax .u32 by show b≤4294967295;omega)]
 rfl
theorem A1y {p : P} {h : H} {t : Tm} {L l : List UInt8} {k : KV} {e : Nat} (ha : h.at p = .row t 2 0 55 true) (hl : l.length ≤ 1000) : ∀ (n i v : Nat), l.length - i + e + 1 ≤ n → i ≤ l.length → (∀ n', e ≤ n' → (r66 W1 k n').a2 (.ptr p 0) L.length (enc L) (wrap .i64 (wrap .i32 (Int.ofNat (Bg2 v (l.drop i))))) h) →
    (r66 W1 k n).a1 (.ptr p 0) l.length (enc l) L.length (enc L) (Int.ofNat v) (Int.ofNat l.length) (Int.ofNat i) h
  | 0, _, _, hn, _, _ => absurd hn (by omega)
  | n + 1, i, v, hn, hi, hk => by
    refine Bdn ?_
    unfold Am1
    rw [ilt]
    refine Az (fun e' => ?_) (fun e' => ?_)
    · have e' : i < l.length := of_decide_eq_true e'
      have hd : l.drop i = l[i] :: l.drop (i + 1) := List.drop_eq_getElem_cons e'
      have hx := (l[i]).toNat_lt
      rw [Bi1, Ap]
      refine Cn e' ?_
      rw [wrap32 (by omega), As, Bdf (Nat.mod_lt _ (by decide)) (by omega), Aak (by omega), As]
      refine A1y (e := e) ha hl n (i + 1) _ (by omega) e' ?_
      intro n' hn'
      have := hk n' hn'
      rw [hd] at this
      exact this
    · have hd : l.drop i = [] := by
        have : ¬ i < l.length := of_decide_eq_false e'
        rw [List.drop_eq_nil_iff]; omega
      have := hk n (by omega)
      rw [hd] at this
      rw [As, As]
      exact this
theorem c66(s:List UInt8)(hl:s.length≤549755813888):Pure PP G h0 66 [S s] (Avo (Vf s)):=by
 refine w66 (n:=1015) Bl (g66 ?_)
 unfold Am2
 refine Ek ?_
 have ha:(h0.new Ah2).at h0.next=.row (Ai [.int .u64 (Int.ofNat 0),.bool false] 0 .e) 2 0 55 true:=Ay _ _
 refine Dz (c59 s hl) ?_ rfl (by cases Le s<;>rfl)
 have bad:∀{h:H},h.at h0.next=.row (Ai [.int .u64 (Int.ofNat 0),.bool false] 0 .e) 2 0 55 true→Vf s=none→(oK (Bp env (env.ty 55) [] h) fun v30 h31=>
  stn 2 (.ptr h0.next 0) v30 h31 fun h32=>
  ldn 2 (.ptr h0.next 0) h32 fun v33=>
  (fun v (_:H)=>v=Avo (Vf s):KV) (.tuple [v33,(.bool false)]) h32):=by
  intro h ha e
  rw[b25,Ae]
  refine Tp ha (Nat.le_refl _) rfl (by decide) (by decide) ?_
  refine Acn (Bk _ _ _) (by decide) ?_
  rw[gc2]
  show AV.tuple _=_
  rw[e];rfl
 cases hb:Le s with
 |none=>
  rw[show Aqp none=.tuple [S [],.bool false] from rfl,Ep,Cl,Ez,Ce]
  refine Dz (c60 s) ?_
  rw[Ep,Cl,Ez,Ce]
  refine Pq (fun e=>by cases e) (fun _=>?_)
  refine Pq (fun e=>by cases e) (fun _=>?_)
  refine Pq (fun e=>by cases e) (fun _=>?_)
  refine Pq (fun e=>by cases e) (fun _=>?_)
  refine Cj rfl ?_
  exact bad ha (by unfold Vf;rw[hb])
 |some l=>
  have hlet:(Bb s).2=true:=by
   unfold Le at hb
   by_cases h:(Bb s).2=true
   · exact h
   · rw[if_neg h] at hb;cases hb
  have hq:Nh (s.drop (Bb s).1.length)=true:=(Py s Ol hlet).2
  have hlt:(Bb s).1.length<s.length:=by
   have hle:=Ww s
   rcases Nat.lt_or_ge (Bb s).1.length s.length with h|h
   · exact h
   · have:s.drop (Bb s).1.length=[]:=by rw[List.drop_eq_nil_iff];exact h
     rw[this] at hq;cases hq
  have hhead:(s.drop (Bb s).1.length).head? =some (s[(Bb s).1.length]):=by rw[List.drop_eq_getElem_cons hlt];rfl
  have ec:Vf s=if(Bb s).1=[117,56]∨¬some (s[(Bb s).1.length])=some 39∨l=[]∨8<l.length then none else some (wrap .u64 (cvI l),decide ((Bb s).1=[117])||decide ((Bb s).1=[85])):=by
   unfold Vf;rw[hb,hhead]
  rw[show Aqp (some l)=.tuple [S l,.bool true] from rfl,Ep,Cl,Ez,Ce]
  refine Dz (c60 s) ?_
  rw[Ep,Cl,Ez,Ce]
  refine Jx ?_
  rw[Bk5]
  refine Pq (fun e=>?_) (fun e=>?_)
  · refine Cn hlt ?_
    rw[toNat_eq _ 39 (by decide),Br]
    refine Jx ?_
    rw[Gj]
    refine Jx ?_
    rw[ilt]
    have e1:¬(Bb s).1=[117,56]:=by simpa using e
    refine Az (fun e2=>?_) (fun e2=>?_)
    · refine bad ha ?_
      rw[ec]
      refine if_pos ?_
      simp only[Bool.or_eq_true,Bool.not_eq_true',decide_eq_true_eq,decide_eq_false_iff_not] at e2
      rcases e2 with(e2|e2)|e2
      · exact .inr (.inl fun h=>e2 (Option.some.inj h))
      · exact .inr (.inr (.inl e2))
      · exact .inr (.inr (.inr e2))
    · simp only[Bool.or_eq_false_iff,Bool.not_eq_false',decide_eq_false_iff_not,decide_eq_true_eq] at e2
      obtain⟨⟨e2,e3⟩,e4⟩:=e2
      have ec:Vf s=some (wrap .u64 (cvI l),decide ((Bb s).1=[117])||decide ((Bb s).1=[85])):=by
       rw[ec,if_neg]
       rintro(h|h|h|h)
       · exact e1 h
       · exact h (congrArg some e2)
       · exact e3 h
       · exact e4 h
      have hpos:0<l.length:=by
       cases l with
       |nil=>exact absurd rfl e3
       |cons _ _=>simp
      refine Cn hpos ?_
      rw[As,As,ilt]
      refine Az (fun e5=>?_) (fun e5=>?_)
      · have e5:1<l.length:=of_decide_eq_true e5
        refine A1y (e:=1) ha (by omega) 1014 0 0 (by omega) (Nat.zero_le _) ?_
        intro n' hn'
        obtain⟨n',rfl⟩:∃m,n'=m+1:=⟨n'-1,by omega⟩
        refine A1x ha fun h'=>?_
        show AV.tuple _=_
        rw[ec]
        show AV.tuple _=AV.tuple _
        unfold cvI
        rw[if_pos e5,List.drop_zero]
      · have e5:¬1<l.length:=of_decide_eq_false e5
        refine A1x ha fun h'=>?_
        show AV.tuple _=_
        rw[ec]
        show AV.tuple _=AV.tuple _
        unfold cvI
        rw[if_neg e5]
        have:l.headD 0=l[0]:=by
         cases l with
         |nil=>exact absurd rfl e3
         |cons _ _=>rfl
        rw[this]
  · refine Pq (fun e=>by cases e) (fun _=>?_)
    refine Pq (fun e=>by cases e) (fun _=>?_)
    refine Cj rfl ?_
    refine bad ha ?_
    rw[ec]
    exact if_pos (.inl (by simpa using e))
def Il(c:UInt8):Nat:=if c.toNat≤57 then c.toNat-48 else if c.toNat≤70 then c.toNat-55 else c.toNat-87
def Pf(B v:Nat)(l:List UInt8):Nat:=l.foldl (fun v c=>v*B+Il c) v
theorem Ada{B:Nat}(hB:1≤B):∀(l:List UInt8)(v:Nat),v≤Pf B v l
 |[],_=>Nat.le_refl _
 |c::l,v=>Nat.le_trans (Nat.le_trans (Nat.le_mul_of_pos_right v hB) (Nat.le_add_right _ _)) (Ada hB l (v*B+Il c))
theorem Bgo{x:UInt8}{K:Int→Prop}:asI .u8 (ub x) K=K (Int.ofNat x.toNat):=rfl
theorem Amm(n:Nat):wrap .u64 (Int.ofNat n)=Int.ofNat (n%18446744073709551616):=by
 rw[Fy]
 simp[IntKind.wrap,IntKind.bits,IntKind.signed]
theorem Ac9{n:Nat}(h:n<18446744073709551616):wrap .u64 (Int.ofNat n)=Int.ofNat n:=by rw[Amm,Nat.mod_eq_of_lt h]
theorem A8q(x:UInt8):Pure PP G h0 221 [.int .u8 (Int.ofNat x.toNat)] (.int .u8 (Int.ofNat (x.toNat|||32))):=by
 refine A9s (n:=1) Bl (Bjx ?_)
 unfold Adr
 show(Bool.rec False (fN (Nat.lor x.toNat 32) (fun n=>_)) (Ah (Nat.ble x.toNat (intMax .u8)) (Nat.ble 32 (intMax .u8))):Prop)
 rw[Nat.ble_eq_true_of_le (show x.toNat≤intMax .u8 by have:=x.toNat_lt;show x.toNat≤255;omega)]
 show fN (Nat.lor x.toNat 32) _
 rw[Bd6];rfl
theorem Azm:∀x∈Gg,57<x.toNat→97≤(x.toNat|||32)∧(x.toNat|||32)≤122∧Il x=(x.toNat|||32)-87∧48≤x.toNat:=by decide
theorem A5l:∀x∈Gg,48≤x.toNat∧x.toNat≠95∧Il x<16:=by decide
def puV(v:Nat):AV:=if v<18446744073709551616 then .tuple [.int .u64 (Int.ofNat v),.He] else .tuple [.int .u64 (Int.ofNat 18446744073709551615),.iface 304 (.int .i64 (Int.ofNat 1))]
abbrev M64:Nat:=18446744073709551615
def Frame(h h':H):Prop:=h.next.nat≤h'.next.nat∧∀c,c.nat<h.next.nat→h'.at c=h.at c
theorem Ayj{h:H}{q:P}{t:Tm}{m z n:Nat}{e:TypeId}{w ti:Bool}{l:List UInt8}(ha:h.at q=.row t m z e w)(hm:l.length≤m)(hc:Dy t l){i:Nat}(hi:i<l.length)(hn:n=l.length){K:AV→Prop}(hk:K (ub l[i])):Bz 1 i (.slice q 0 n 1 ti) fun v'=>ld1 v' h K:=by
 subst hn
 show(Bool.rec Aj (fN (Nat.add 0 (Nat.mul i 1)) (fun q'=>ld1 (.ptr q q') h K)) (Ah (Nat.ble (Nat.add i 1) l.length) (Nat.beq 1 1)):Prop)
 rw[Nat.ble_eq_true_of_le (show Nat.add i 1≤l.length from hi)]
 have e1:Nat.add 0 (Nat.mul i 1)=i:=by show 0+i*1=i;omega
 rw[e1]
 show ld1 (.ptr q i) h K
 refine Cz ha (by omega) ?_
 rw[hc i hi];exact hk
section
variable{B:Nat}{s s0 set:List UInt8}{q:P}{t:Tm}{h:H}{k:KV}
theorem Av4 (hB : 2 ≤ B ∧ B ≤ 16) (hset : ∀ x ∈ s, x ∈ Gg ∧ Il x < B) (hl : s.length ≤ 1099511627776) (ha : h.at q = .row t s.length 0 TB false) (hc : Dy t s) : ∀ (n i v : Nat), 2 * (s.length - i) + 1 ≤ n → i ≤ s.length → v ≤ M64 → k (puV (Pf B v (s.drop i))) h →
    (Ox W1 k n).a1 (Int.ofNat B) false s0.length (enc s0) (Int.ofNat (M64 / B + 1)) (Int.ofNat M64) false (Int.ofNat v) (.slice q 0 s.length 1 false) (Int.ofNat s.length) (Int.ofNat i) h
  | 0, _, _, hn, _, _, _ => absurd hn (by omega)
  | n + 1, i, v, hn, hi, hv, hk => by
    refine A4y ?_
    unfold Ad4
    rw [ilt]
    by_cases e : i < s.length
    · refine Cj (decide_eq_true e) ?_
      have hd : s.drop i = s[i] :: s.drop (i + 1) := List.drop_eq_getElem_cons e
      obtain ⟨hx, hdg⟩ := hset _ (List.getElem_mem e)
      obtain ⟨h48, h95, h16⟩ := A5l _ hx
      have h256 := (s[i]).toNat_lt
      have step : ∀ (h2 : h = h), (Ox W1 k n).a2 (Int.ofNat B) false s0.length (enc s0) (Int.ofNat (M64 / B + 1)) (Int.ofNat M64) false (Int.ofNat v) (Int.ofNat (Il s[i])) (.slice q 0 s.length 1 false) (Int.ofNat s.length) (Int.ofNat i) h := by
        intro _
        obtain ⟨n, rfl⟩ : ∃ n', n = n' + 1 := ⟨n - 1, by omega⟩
        refine A4x ?_
        unfold Ad3
        rw [Aml (show B < 256 by omega), As, ile]
        refine Bo (decide_eq_false (by omega)) ?_
        rw [ile]
        have hq := Nat.div_add_mod M64 B
        have hqm := Nat.mod_lt M64 (show 0 < B by omega)
        refine Az (fun e1 => ?_) (fun e1 => ?_)
        · have e1 : M64 / B + 1 ≤ v := of_decide_eq_true e1
          have h1 : M64 < v * B := by
            have : (M64 / B + 1) * B ≤ v * B := Nat.mul_le_mul_right B e1
            rw [Nat.add_mul, Nat.one_mul] at this
            rw [Nat.mul_comm] at hq
            omega
          rw [hd] at hk
          have h2 : v * B + Il s[i] ≤ Pf B v (s[i] :: s.drop (i + 1)) := Ada (by omega) _ _
          unfold puV at hk
          rw [if_neg (by show ¬ _ < M64 + 1; omega)] at hk
          exact hk
        · have e1 : ¬ M64 / B + 1 ≤ v := of_decide_eq_false e1
          have h1 : v * B ≤ M64 := by
            have : v * B ≤ M64 / B * B := Nat.mul_le_mul_right B (by omega)
            rw [Nat.mul_comm] at hq
            omega
          have hB64 : B < 18446744073709551616 := by omega
          rw [Ac9 hB64, As, show Int.ofNat v * Int.ofNat B = Int.ofNat (v * B) from rfl, Ac9 (show v * B < M64 + 1 by omega), As, Ac9 (show Il s[i] < M64 + 1 by show _ < 18446744073709551616; omega), As, De, Amm, As, ilt]
          refine Jx ?_
          rw [ilt]
          refine Az (fun e2 => ?_) (fun e2 => ?_)
          · have h3 : M64 < v * B + Il s[i] := by
              simp only [Bool.or_eq_true, decide_eq_true_eq] at e2
              rcases e2 with e2 | e2
              · rcases Nat.lt_or_ge M64 (v * B + Il s[i]) with h | h
                · exact h
                · rw [Nat.mod_eq_of_lt (show _ < M64 + 1 by omega)] at e2; omega
              · have := Nat.mod_lt (v * B + Il s[i]) (show 0 < 18446744073709551616 by decide)
                have e2 : M64 < (v * B + Il s[i]) % 18446744073709551616 := e2
                have : (v * B + Il s[i]) % 18446744073709551616 < M64 + 1 := this
                omega
            rw [hd] at hk
            have h2 : v * B + Il s[i] ≤ Pf B v (s[i] :: s.drop (i + 1)) := Ada (by omega) _ _
            unfold puV at hk
            rw [if_neg (by show ¬ _ < M64 + 1; omega)] at hk
            exact hk
          · have h3 : v * B + Il s[i] ≤ M64 := by
              simp only [Bool.or_eq_false_iff, decide_eq_false_iff_not] at e2
              rcases Nat.lt_or_ge M64 (v * B + Il s[i]) with h | h
              · exfalso
                have e3 : (v * B + Il s[i]) % 18446744073709551616 = v * B + Il s[i] - 18446744073709551616 := by
                  rw [Nat.mod_eq_sub_mod (show 18446744073709551616 ≤ v * B + Il s[i] from h), Nat.mod_eq_of_lt (by have : v * B ≤ 18446744073709551615 := h1; omega)]
                rw [e3] at e2
                have : v * B ≤ 18446744073709551615 := h1
                omega
              · exact h
            rw [Aak (by omega), As, Nat.mod_eq_of_lt (show _ < M64 + 1 by omega)]
            refine Av4 hB hset hl ha hc n (i + 1) _ (by omega) e h3 ?_
            rw [hd] at hk
            exact hk
      rw [Ap]
      refine Ayj ha (Nat.le_refl _) hc e rfl ?_
      rw [Bgo]
      refine Sk ?_
      refine Bo (by rw [Bool.and_false]) ?_
      refine Sk ?_
      rw [ile, ile]
      by_cases e1 : (s[i]).toNat ≤ 57
      · refine Cj (by rw [decide_eq_true h48, decide_eq_true e1]; rfl) ?_
        rw [Wy h48, Aml (by omega), As]
        have : (s[i]).toNat - 48 = Il s[i] := by unfold Il; rw [if_pos e1]
        rw [this]
        exact step rfl
      · refine Bo (by rw [decide_eq_false e1, Bool.and_false]) ?_
        obtain ⟨g1, g2, g3, _⟩ := Azm _ hx (by omega)
        refine Dz (A8q s[i]) ?_
        rw [Au, ile]
        refine Lb (b := true) (fun k' hk' => ?_) ?_
        · refine Dz (A8q s[i]) ?_
          rw [Au, ile, decide_eq_true g2]; exact hk'
        refine Cj (by rw [decide_eq_true g1]; rfl) ?_
        refine Dz (A8q s[i]) ?_
        rw [Au, Wy g1, Aml (by omega), As, De, Aml (by omega), As]
        rw [show ((s[i]).toNat ||| 32) - 97 + 10 = Il s[i] by rw [g3]; omega]
        exact step rfl
    · refine Bo (decide_eq_false e) ?_
      have hd : s.drop i = [] := by rw [List.drop_eq_nil_iff]; omega
      rw [hd] at hk
      have hk : k (puV v) h := hk
      unfold puV at hk
      rw [if_pos (show v < M64 + 1 by omega)] at hk
      refine Gi (fun e => by cases e) (fun _ => ?_)
      exact Bo rfl hk
end
theorem cv9(l c:Nat)(h:H):Gh env h 9 115 (.str l c)=some (.slice h.next 0 l 1 false,h.new (.row (Ai (byteCells l c) 0 .e) l 0 TB false)):=by kernel_rfl
theorem Ac0:∀l:List UInt8,byteCells l.length (enc l)=ubs l
 |[]=>rfl
 |x::l=>by
  obtain⟨h1,h2⟩:=Re x l
  show(.int .u8 (.ofNat (Nat.mod (enc (x::l)) 256))::byteCells l.length (Nat.div (enc (x::l)) 256):List AV)=_
  rw[h1,h2,Ac0 l];rfl
theorem Bb1{K:Int→Prop}:Apm .u64 (Int.ofNat 1) (Int.ofNat 64) K=K (Int.ofNat 0):=by
 have e:wrap .u64 (Int.ofNat 1*2^(min 64 (IntKind.bits .u64)))=Int.ofNat 0:=by kernel_rfl
 show fI (wrap .u64 (Int.ofNat 1*2^(min 64 (IntKind.bits .u64)))) K=_
 rw[e,As]
theorem Bb5{K:Int→Prop}:Ayp .u64 (Int.ofNat 18446744073709551615) (Int.ofNat 8) K=K (Int.ofNat (M64 / 8)):=by
 have e:wrap .u64 ((Int.ofNat 18446744073709551615).tdiv (Int.ofNat 8))=Int.ofNat (M64 / 8):=by kernel_rfl
 show fI (wrap .u64 ((Int.ofNat 18446744073709551615).tdiv (Int.ofNat 8))) K=_
 rw[e,As]
theorem Bl0{B:Nat}{s:List UInt8}{h:H}{k:KV}(hB:B=8∨B=10∨B=16)(hne:s≠[])(hset:∀x∈s,x∈Gg∧Il x<B)(hl:s.length≤1099511627776)(hk:∀h',Frame h h'→k (puV (Pf B 0 s)) h'):W1 (.func 173) [S s,.int .i64 (Int.ofNat B),.int .i64 (Int.ofNat 64)] h k:=by
 refine A9z (n:=2*s.length+20) Bl (Bj4 ?_)
 unfold Ad5
 have e0:Bm s.length (enc s) 0 0=false:=by rw[Gj];exact decide_eq_false hne
 refine Bo e0 ?_
 refine Sk ?_
 have hB2:2≤B∧B≤16:=by omega
 refine Cj (by rw[ile,ile,decide_eq_true (show 2≤B by omega),decide_eq_true (show B≤36 by omega)];rfl) ?_
 rw[Ru,decide_eq_false (show¬B=0 by omega)]
 refine A4u ?_
 unfold Ad0
 refine Bo rfl ?_
 refine Jx ?_
 refine Bo rfl ?_
 refine A4v ?_
 unfold Ad1
 have main:∀n,2*s.length+2≤n→(Ox W1 k n).a3 s.length (enc s) (Int.ofNat B) (Int.ofNat 64) false s.length (enc s) (Int.ofNat (M64 / B+1)) h:=by
  intro n hn
  obtain⟨n,rfl⟩:∃n',n=n'+1:=⟨n-1,by omega⟩
  refine A4w ?_
  unfold Ad2
  rw[show wrap .u64 (Int.ofNat 64)=Int.ofNat 64 by kernel_rfl,As]
  rw[Bb1,show wrap .u64 (Jj (Int.ofNat 0) (Int.ofNat 1))=Int.ofNat M64 by kernel_rfl,As,cv9,Ae,Li,Ac0]
  refine Av4 hB2 hset hl (Ay _ _) (Dy.new s .e) n 0 0 (by omega) (Nat.zero_le _) (Nat.zero_le _) ?_
  rw[List.drop_zero]
  exact hk _ ⟨by rw[Be];omega,fun c hc=>Dd hc⟩
 rcases hB with rfl|rfl|rfl
 · refine Bo rfl ?_
   refine Bo rfl ?_
   rw[show wrap .u64 (Int.ofNat 8)=Int.ofNat 8 by kernel_rfl,As]
   rw[Bb5,show wrap .u64 (Bn (Int.ofNat (M64 / 8)) (Int.ofNat 1))=Int.ofNat (M64 / 8+1) by kernel_rfl,As]
   exact main _ (by omega)
 · refine Cj rfl ?_
   exact main _ (by omega)
 · refine Bo rfl ?_
   refine Cj rfl ?_
   exact main _ (by omega)
theorem Atj(t:TypeId)(v:AV):Kz env .neq 151 (.iface t v) .He=some (.bool true):=by kernel_rfl
theorem Ati:Kz env .neq 151 .He .He=some (.bool false):=by kernel_rfl
theorem Bma{B:Nat}{s:List UInt8}{h:H}{k:KV}(he:Ly h)(hB:B=8∨B=10∨B=16)(hne:s≠[])(hset:∀x∈s,x∈Gg∧Il x<B)(hl:s.length≤1099511627776)
 (hk1:Pf B 0 s<18446744073709551616→∀h',Frame h h'→k (.tuple [.int .u64 (Int.ofNat (Pf B 0 s)),.He]) h') (hk2:¬Pf B 0 s<18446744073709551616→∀h' p,Frame h h'→k (.tuple [.int .u64 (Int.ofNat 18446744073709551615),.iface 306 (.ptr p 0)]) h'):W1 (.func 117) [S s,.int .i64 (Int.ofNat B),.int .i64 (Int.ofNat 64)] h k:=by
 refine Bam (n:=1) Bl (Bkr ?_)
 unfold Ae4
 refine Bl0 hB hne hset hl fun h' hf=>?_
 unfold puV
 by_cases e:Pf B 0 s<18446744073709551616
 · rw[if_pos e,Ep,Au,Ez,Ati,Jd,Ce]
   refine Bo rfl ?_
   exact hk1 e h' hf
 · rw[if_neg e,Ep,Au,Ez,Atj,Jd,Ce]
   refine Cj rfl ?_
   refine Blz (fn:=[80,97,114,115,101,85,105,110,116]) ?_
   refine Blu (he.keep hf.1 hf.2) hl fun h2 p hn2 hf2=>⟨p,rfl,?_⟩
   exact hk2 e h2 p ⟨Nat.le_trans hf.1 hn2,fun c hc=>by rw[hf2 c (Nat.lt_of_lt_of_le hc hf.1),hf.2 c hc]⟩
end Go.Den
namespace Go.Den
open Go.RowKit
set_option maxRecDepth 100000
def Vr(r:List UInt8):Bool:=decide (r=[])||decide (r=[108])||decide (r=[76])||decide (r=[108,108])||decide (r=[76,76])
def Aaf(c:UInt8):Bool:=decide (c=117)||decide (c=85)
def Aad(s:List UInt8):Bool:=match s.getLast? with
 |some c=>Aaf c
 |none=>false
def Yp(s:List UInt8):Bool×Bool:=match s with
 |[]=>(false,true)
 |c::t=>if Aaf c then(true,Vr t) else if Aad (c::t) then(true,Vr (c::t).dropLast) else(false,Vr (c::t))
theorem Bk6(s:List UInt8):Bm s.length (enc s) 2 27756=decide (s=[108,108]):=Df (t:=[108,108])
theorem Bk7(s:List UInt8):Bm s.length (enc s) 2 19532=decide (s=[76,76]):=Df (t:=[76,76])
theorem Agn{r:List UInt8}{u:Bool}{h:H}{k:KV}{n:Nat}(hk:k (.tuple [.bool u,.bool (Vr r)]) h):(Ahw W1 k (n+1)).a1 r.length (enc r) u h:=by
 refine A5b ?_
 unfold Ae7
 refine Jx ?_
 refine Jx ?_
 refine Jx ?_
 refine Jx ?_
 rw[Gj,A1q,Bee,Bk6,Bk7]
 exact hk
theorem Bmb(s:List UInt8)(hl:s.length≤1099511627776):Pure PP G h0 113 [S s] (.tuple [.bool (Yp s).1,.bool (Yp s).2]):=by
 refine Baq (n:=2) Bl (Bkv ?_)
 unfold Ae8
 cases s with
 |nil=>
  refine Cj rfl ?_
  exact Agn (r:=[]) rfl
 |cons c t=>
  refine Bo (Ks c t) ?_
  refine Cn (s:=c::t) (Nat.zero_lt_succ _) ?_
  refine Rt (b:=decide (c=85)) (fun k' hk'=>?_) ?_
  · refine Cn (s:=c::t) (Nat.zero_lt_succ _) ?_
    rw[List.getElem_cons_zero,toNat_eq _ 85 (by decide)];exact hk'
  rw[List.getElem_cons_zero,toNat_eq _ 117 (by decide)]
  refine Az (fun e=>?_) (fun e=>?_)
  · have e:Aaf c=true:=e
    refine Ft (s:=c::t) (Nat.le_add_left 1 _) ?_
    refine Agn (r:=t) ?_
    show AV.tuple _=AV.tuple _
    have:Yp (c::t)=(true,Vr t):=if_pos e
    rw[this]
  · have e:¬Aaf c=true:=fun h=>by rw[show Aaf c=false from e] at h;cases h
    have h1:1≤(c::t).length:=Nat.le_add_left 1 _
    have h2:(c::t).length-1<(c::t).length:=by omega
    have hlast:(c::t).getLast? =some ((c::t)[(c::t).length-1]):=by rw[List.getLast?_eq_getElem?,List.getElem?_eq_getElem h2]
    have hlu:Aad (c::t)=Aaf ((c::t)[(c::t).length-1]):=by unfold Aad;rw[hlast]
    rw[A1j h1 (by omega),As,Ap]
    refine Cn h2 ?_
    refine Rt (b:=decide ((c::t)[(c::t).length-1]=85)) (fun k' hk'=>?_) ?_
    · rw[As,Ap]
      refine Cn h2 ?_
      rw[toNat_eq _ 85 (by decide)];exact hk'
    rw[toNat_eq _ 117 (by decide)]
    refine Az (fun e2=>?_) (fun e2=>?_)
    · have e2:Aaf ((c::t)[(c::t).length-1])=true:=e2
      rw[As,Ap]
      refine Alm (by omega) ?_
      refine Agn ?_
      show AV.tuple _=AV.tuple _
      have:Yp (c::t)=(true,Vr (c::t).dropLast):=by
       show(if Aaf c then(true,Vr t) else if Aad (c::t) then(true,Vr (c::t).dropLast) else(false,Vr (c::t)))=_
       rw[if_neg e,hlu,if_pos e2]
      rw[this,List.dropLast_eq_take]
    · have e2:¬Aaf ((c::t)[(c::t).length-1])=true:=fun h=>by rw[show Aaf ((c::t)[(c::t).length-1])=false from e2] at h;cases h
      refine Agn ?_
      show AV.tuple _=AV.tuple _
      have:Yp (c::t)=(false,Vr (c::t)):=by
       show(if Aaf c then(true,Vr t) else if Aad (c::t) then(true,Vr (c::t).dropLast) else(false,Vr (c::t)))=_
       rw[if_neg e,hlu,if_neg e2]
      rw[this]
def Apw(u ok:Bool)(B:Nat)(set dd:List UInt8):Option (Nat×Bool):=
 if(!ok||decide (dd=[])||!decide (Cm dd set=dd.length))=true then none else if Pf B 0 dd<18446744073709551616 then some (Pf B 0 dd,u||decide (9223372036854775807<Pf B 0 dd)) else none
def Apv(s:List UInt8):Option (Nat×Bool):=
 if Nt (Gf s Lz)=true then Apw (Yp (s.drop (Gf s Lz).length)).1 (Yp (s.drop (Gf s Lz).length)).2 16 Gg ((Gf s Lz).drop 2)
 else if(Gf s Lz).take 1=[48] then Apw (Yp (s.drop (Gf s Lz).length)).1 (Yp (s.drop (Gf s Lz).length)).2 8 Zs (Gf s Lz)
 else Apw (Yp (s.drop (Gf s Lz).length)).1 (Yp (s.drop (Gf s Lz).length)).2 10 Im (Gf s Lz)
def Afq(o:Option (Nat×Bool)):AV:=match o with
 |some p=>.tuple [.agg [.int .u64 (Int.ofNat p.1),.bool p.2],.bool true]
 |none=>A1a
theorem Alz{p:P}{h:H}{t:Tm}{u ok:Bool}{B n:Nat}{set dd:List UInt8}{k:KV}(he:Ly h)(ha:h.at p=.row t 2 0 55 true)(hp:p.nat<h.next.nat)(hs:Ub set)(h2:2≤set.length)(hset:∀x∈set,x∈Gg∧Il x<B)(hB:B=8∨B=10∨B=16)(hl:dd.length≤1099511627776)
 (hk:∀h',k (Afq (Apw u ok B set dd)) h'):(r64 W1 k (n+1)).a1 (.ptr p 0) dd.length (enc dd) u ok (Int.ofNat B) set.length (enc set) h:=by
 refine Bdq ?_
 unfold Am6
 have bad:Apw u ok B set dd=none→∀h:H,h.at p=.row t 2 0 55 true→(oK (Bp env (env.ty 55) [] h) fun v32 h33=>
  stn 2 (.ptr p 0) v32 h33 fun h34=>
  ldn 2 (.ptr p 0) h34 fun v35=>
  k (.tuple [v35,(.bool false)]) h34):=by
  intro e h ha
  rw[b25,Ae]
  refine Tp ha (Nat.le_refl _) rfl (by decide) (by decide) ?_
  refine Acn (Bk _ _ _) (by decide) ?_
  rw[gc2]
  have:=hk (h.put p (.row (Ai [.int .u64 (Int.ofNat 0),.bool false] 0 t) 2 0 55 true))
  rw[e] at this
  exact this
 refine Jx ?_
 rw[Gj,Br]
 refine Rt (b:=!decide (Cm dd set=dd.length)) (fun k' hk'=>?_) ?_
 · refine Dz (Aqo hs h2 dd (by omega)) ?_
   rw[Au,Ru,Br];exact hk'
 refine Az (fun e=>?_) (fun e=>?_)
 · exact bad (if_pos e) h ha
 · have en:Apw u ok B set dd=if Pf B 0 dd<18446744073709551616 then some (Pf B 0 dd,u||decide (9223372036854775807<Pf B 0 dd)) else none:=if_neg (by rw[e];simp)
   simp only[Bool.or_eq_false_iff,Bool.not_eq_false',decide_eq_true_eq,decide_eq_false_iff_not] at e
   obtain⟨⟨_,e1⟩,e2⟩:=e
   have hall:∀x∈dd,x∈Gg∧Il x<B:=fun x hx=>hset x (Afh (s:=dd) (set:=set) (n:=dd.length) (by omega) (by rw[List.take_length];exact hx))
   refine Bma he hB e1 hall hl (fun hv h' hf=>?_) (fun hv h' q hf=>?_)
   · rw[if_pos hv] at en
     have ha':h'.at p=.row t 2 0 55 true:=by rw[hf.2 p hp];exact ha
     rw[Ep,Au,Ez,Ati,Jd,Ce]
     refine Bo rfl ?_
     refine Jx ?_
     rw[ilt,Bgm,Ae]
     refine Tp ha' (Nat.le_refl _) rfl (by decide) (by decide) ?_
     refine Acn (Bk _ _ _) (by decide) ?_
     rw[gc2]
     have:=hk (h'.put p (.row (Ai [.int .u64 (Int.ofNat (Pf B 0 dd)),.bool (u||decide (9223372036854775807<Pf B 0 dd))] 0 t) 2 0 55 true))
     rw[en] at this
     exact this
   · rw[if_neg hv] at en
     have ha':h'.at p=.row t 2 0 55 true:=by rw[hf.2 p hp];exact ha
     rw[Ep,Au,Ez,Atj,Jd,Ce]
     refine Cj rfl ?_
     exact bad en h' ha'
theorem Arr(s set:List UInt8):(Gf s set).length≤s.length:=by
 unfold Gf
 rw[List.length_reverse]
 have:=(List.dropWhile_sublist (l:=s.reverse) (·∈set)).length_le
 rw[List.length_reverse] at this;exact this
theorem Aya:∀x∈Gg,x∈Gg∧Il x<16:=by decide
theorem Ax9:∀x∈Zs,x∈Gg∧Il x<8:=by decide
theorem Ayb:∀x∈Im,x∈Gg∧Il x<10:=by decide
theorem c64(s:List UInt8)(hl:s.length≤1099511627776):Pure PP G h1 64 [S s] (Afq (Apv s)):=by
 refine w64 (n:=2) Bl (g64 ?_)
 unfold Am7
 refine Ek ?_
 have he:Ly (h1.new Ah2):=Aom.new
 have ha:(h1.new Ah2).at h1.next=.row (Ai [.int .u64 (Int.ofNat 0),.bool false] 0 .e) 2 0 55 true:=Ay _ _
 have hp:h1.next.nat<(h1.new Ah2).next.nat:=by rw[Be];omega
 refine Dz (Bmc A3c (by decide) s (by omega)) ?_
 rw[Cl]
 have hd:=Arr s Lz
 refine Ft hd ?_
 refine Dz (Bmb (s.drop (Gf s Lz).length) (by rw[List.length_drop];omega)) ?_
 rw[Ep,Ce,Ez,Ce]
 refine Dz (Bgf (Gf s Lz)) ?_
 rw[Ce]
 refine Az (fun e=>?_) (fun e=>?_)
 · have h2:2≤(Gf s Lz).length:=by
    have e:=e
    unfold Nt at e
    rw[Bool.or_eq_true,decide_eq_true_eq,decide_eq_true_eq] at e
    rcases e with e|e<;>(have:=congrArg List.length e;simp[hx1,hx2] at this;omega)
   refine Ft h2 ?_
   refine Alz (B:=16) (set:=Gg) he ha hp Ak8 (by decide) Aya (by decide) (by rw[List.length_drop];omega) fun h'=>?_
   show Afq _=Afq _
   unfold Apv;rw[if_pos e]
 · have e:¬Nt (Gf s Lz)=true:=by rw[e];simp
   refine Dz (A0m (Gf s Lz) [48]) ?_
   rw[Ce]
   refine Az (fun e2=>?_) (fun e2=>?_)
   · have e2:(Gf s Lz).take 1=[48]:=of_decide_eq_true e2
     refine Alz (B:=8) (set:=Zs) he ha hp As9 (by decide) Ax9 (by decide) (by omega) fun h'=>?_
     show Afq _=Afq _
     unfold Apv;rw[if_neg e,if_pos e2]
   · have e2:¬(Gf s Lz).take 1=[48]:=of_decide_eq_false e2
     refine Alz (B:=10) (set:=Im) he ha hp Alk (by decide) Ayb (by decide) (by omega) fun h'=>?_
     show Afq _=Afq _
     unfold Apv;rw[if_neg e,if_neg e2]
end Go.Den
