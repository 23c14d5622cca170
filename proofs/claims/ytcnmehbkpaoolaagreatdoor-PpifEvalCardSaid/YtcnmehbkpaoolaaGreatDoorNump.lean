/-
 Proof.
-/
import Derived.Test.YtcnmehbkpaoolaaGreatDoorLaid
import Derived.KernelRfl
noncomputable section
namespace Go.Den
open Go.RowKit
set_option maxRecDepth 100000
theorem Wb{n:Nat}(h:n<256):wrap .u8 (Int.ofNat n)=Int.ofNat n:=by
 rw[Dv]
 simp[IntKind.wrap,IntKind.bits,IntKind.signed]
 omega
theorem Ba7{a b:Nat}{K:Int→Prop}(hb:0<b):Tx (Int.ofNat a) (Int.ofNat b) K=K (Int.ofNat (a%b)):=by
 unfold Tx
 rw[Lg,decide_eq_false (show¬b=0 by omega)]
 show fI (Int.ofNat (a%b)) K=_
 rw[Ak]
def Ayj(v:Nat)(l:List UInt8):Nat:=l.foldl (fun v b=>(v*256%4294967296)|||b.toNat) v
def cvI(l:List UInt8):Int:=if 1<l.length then wrap .i64 (wrap .i32 (Int.ofNat (Ayj 0 l))) else wrap .i64 (wrap .i8 (Int.ofNat (l.headD 0).toNat))
def Ge(s:List UInt8):Option (Int×Bool):=match Oo s with
 |none=>none
 |some l=>if(Bf s).1=[117,56]∨¬(s.drop (Bf s).1.length).head? =some 39∨l=[]∨8<l.length then none else some (wrap .u64 (cvI l),decide ((Bf s).1=[117])||decide ((Bf s).1=[85]))
def Aaf(o:Option (Int×Bool)):AV:=match o with
 |some p=>.tuple [.agg [.int .u64 p.1,.bool p.2],.bool true]
 |none=>Ayx
theorem gc2(a b:AV)(t:Tm):Cg (Bg [a,b] 0 t) 2 0=[a,b]:=by
 rw[Jy]
 have h0:Co (Bg [a,b] 0 t) 0=a:=by rw[Cd];simp
 have h1:Co (Bg [a,b] 0 t) 1=b:=by rw[Cd];simp
 show[Co (Bg [a,b] 0 t) (0+0),Co (Bg [a,b] 0 t) (0+1)]=_
 rw[h0,h1]
theorem A8o(n:Int)(b:Bool)(h:H):Ax env (env.ty 55) [(0,(.int .u64 n)),(1,(.bool b))] h=some (.agg [.int .u64 n,.bool b],h):=by kernel_rfl
theorem Azg(s:List UInt8):Bc s.length (enc s) 1 117=decide (s=[117]):=Dg (t:=[117])
theorem Bdf(s:List UInt8):Bc s.length (enc s) 1 85=decide (s=[85]):=Dg (t:=[85])
theorem Bdc(s:List UInt8):Bc s.length (enc s) 2 14453=decide (s=[117,56]):=Dg (t:=[117,56])
theorem Azq{p:P}{h:H}{t:Tm}{L:List UInt8}{n:Int}{m:Nat}{k:KV}(ha:h.at p=.row t 2 0 55 true)(hk:∀h',k (.tuple [.agg [.int .u64 (wrap .u64 n),.bool (decide (L=[117])||decide (L=[85]))],.bool true]) h'):(r66 W1 k (m+1)).a2 (.ptr p 0) L.length (enc L) n h:=by
 refine Bco ?_
 unfold Aly
 rw[Ak]
 refine Hf ?_
 rw[Azg,Bdf,A8o,Ac]
 refine Wd ha (Nat.le_refl _) rfl (by decide) (by decide) ?_
 refine Ab2 (Dd _ _ _) (by decide) ?_
 rw[gc2]
 exact hk _
theorem Biw{v:Nat}{K:Int→Prop}:Acz .u32 (Int.ofNat v) (Int.ofNat 8) K=K (Int.ofNat (v*256%4294967296)):=by
 show fI (wrap .u32 (Int.ofNat v*2^(min 8 (IntKind.bits .u32)))) K=_
 have e:wrap .u32 (Int.ofNat v*2^(min 8 (IntKind.bits .u32)))=Int.ofNat (v*256%4294967296):=by
  rw[Dv]
  have:(2:Int)^(min 8 (IntKind.bits .u32))=256:=by decide
  rw[this]
  show IntKind.wrap .u32 ((v:Int)*256)=((v*256%4294967296:Nat):Int)
  simp[IntKind.wrap,IntKind.bits,IntKind.signed]
 rw[e,Ak]
theorem wrap32{n:Nat}(h:n<4294967296):wrap .u32 (Int.ofNat n)=Int.ofNat n:=by
 rw[Dv]
 simp[IntKind.wrap,IntKind.bits,IntKind.signed]
 omega
theorem Bcd{a b:Nat}{K:Int→Prop}(ha:a<4294967296)(hb:b<4294967296):Ll Nat.lor .u32 (Int.ofNat a) (Int.ofNat b) K=K (Int.ofNat (a|||b)):=by
 show(Bool.rec False (fN (Nat.lor a b) (fun n=>K (.ofNat n))) (An (Nat.ble a (intMax .u32)) (Nat.ble b (intMax .u32))):Prop)=_
 rw[Nat.ble_eq_true_of_le (show a≤intMax .u32 by show a≤4294967295;omega),Nat.ble_eq_true_of_le (show b≤intMax .u32 by show b≤4294967295;omega)]
 rfl
theorem Azr {p : P} {h : H} {t : Tm} {L l : List UInt8} {k : KV} {e : Nat} (ha : h.at p = .row t 2 0 55 true) (hl : l.length ≤ 1000) : ∀ (n i v : Nat), l.length - i + e + 1 ≤ n → i ≤ l.length → (∀ n', e ≤ n' → (r66 W1 k n').a2 (.ptr p 0) L.length (enc L) (wrap .i64 (wrap .i32 (Int.ofNat (Ayj v (l.drop i))))) h) →
    (r66 W1 k n).a1 (.ptr p 0) l.length (enc l) L.length (enc L) (Int.ofNat v) (Int.ofNat l.length) (Int.ofNat i) h
  | 0, _, _, hn, _, _ => absurd hn (by omega)
  | n + 1, i, v, hn, hi, hk => by
    refine Bcp ?_
    unfold Alz
    rw [ilt]
    refine Ap (fun e' => ?_) (fun e' => ?_)
    · have e' : i < l.length := of_decide_eq_true e'
      have hd : l.drop i = l[i] :: l.drop (i + 1) := List.drop_eq_getElem_cons e'
      have hx := (l[i]).toNat_lt
      rw [Biw, Bh]
      refine Cj e' ?_
      rw [wrap32 (by omega), Ak, Bcd (Nat.mod_lt _ (by decide)) (by omega), Ho (by omega), Ak]
      refine Azr (e := e) ha hl n (i + 1) _ (by omega) e' ?_
      intro n' hn'
      have := hk n' hn'
      rw [hd] at this
      exact this
    · have hd : l.drop i = [] := by
        have : ¬ i < l.length := of_decide_eq_false e'
        rw [List.drop_eq_nil_iff]; omega
      have := hk n (by omega)
      rw [hd] at this
      rw [Ak, Ak]
      exact this
theorem c66(s:List UInt8)(hl:s.length≤549755813888):Pure PP G h0 66 [S s] (Aaf (Ge s)):=by
 refine w66 (n:=1015) Bw (g66 ?_)
 unfold Al0
 refine Bo ?_
 have ha:(h0.new Ek).at h0.next=.row (Bg [.int .u64 (Int.ofNat 0),.bool false] 0 .e) 2 0 55 true:=Bs _ _
 refine Dh (c59 s hl) ?_ rfl (by cases Oo s<;>rfl)
 have bad:∀{h:H},h.at h0.next=.row (Bg [.int .u64 (Int.ofNat 0),.bool false] 0 .e) 2 0 55 true→Ge s=none→(oK (Ax env (env.ty 55) [] h) fun v30 h31=>
  stn 2 (.ptr h0.next 0) v30 h31 fun h32=>
  ldn 2 (.ptr h0.next 0) h32 fun v33=>
  (fun v (_:H)=>v=Aaf (Ge s):KV) (.tuple [v33,(.bool false)]) h32):=by
  intro h ha e
  rw[b25,Ac]
  refine Wd ha (Nat.le_refl _) rfl (by decide) (by decide) ?_
  refine Ab2 (Dd _ _ _) (by decide) ?_
  rw[gc2]
  show AV.tuple _=_
  rw[e];rfl
 cases hb:Oo s with
 |none=>
  rw[show Xc none=.tuple [S [],.bool false] from rfl,Eb,De,Eh,Av]
  refine Dh (c60 s) ?_
  rw[Eb,De,Eh,Av]
  refine Hx (fun e=>by cases e) (fun _=>?_)
  refine Hx (fun e=>by cases e) (fun _=>?_)
  refine Hx (fun e=>by cases e) (fun _=>?_)
  refine Hx (fun e=>by cases e) (fun _=>?_)
  refine Bz rfl ?_
  exact bad ha (by unfold Ge;rw[hb])
 |some l=>
  have hlet:(Bf s).2=true:=by
   unfold Oo at hb
   by_cases h:(Bf s).2=true
   · exact h
   · rw[if_neg h] at hb;cases hb
  have hq:Gn (s.drop (Bf s).1.length)=true:=(Jx s Dc hlet).2
  have hlt:(Bf s).1.length<s.length:=by
   have hle:=Wl s
   rcases Nat.lt_or_ge (Bf s).1.length s.length with h|h
   · exact h
   · have:s.drop (Bf s).1.length=[]:=by rw[List.drop_eq_nil_iff];exact h
     rw[this] at hq;cases hq
  have hhead:(s.drop (Bf s).1.length).head? =some (s[(Bf s).1.length]):=by rw[List.drop_eq_getElem_cons hlt];rfl
  have ec:Ge s=if(Bf s).1=[117,56]∨¬some (s[(Bf s).1.length])=some 39∨l=[]∨8<l.length then none else some (wrap .u64 (cvI l),decide ((Bf s).1=[117])||decide ((Bf s).1=[85])):=by
   unfold Ge;rw[hb,hhead]
  rw[show Xc (some l)=.tuple [S l,.bool true] from rfl,Eb,De,Eh,Av]
  refine Dh (c60 s) ?_
  rw[Eb,De,Eh,Av]
  refine Hf ?_
  rw[Bdc]
  refine Hx (fun e=>?_) (fun e=>?_)
  · refine Cj hlt ?_
    rw[toNat_eq _ 39 (by decide),Bj]
    refine Hf ?_
    rw[La]
    refine Hf ?_
    rw[ilt]
    have e1:¬(Bf s).1=[117,56]:=by simpa using e
    refine Ap (fun e2=>?_) (fun e2=>?_)
    · refine bad ha ?_
      rw[ec]
      refine if_pos ?_
      simp only[Bool.or_eq_true,Bool.not_eq_true',decide_eq_true_eq,decide_eq_false_iff_not] at e2
      rcases e2 with(e2|e2)|e2
      · exact .inr (.inl fun h=>e2 (Option.some.inj h))
      · exact .inr (.inr (.inl e2))
      · exact .inr (.inr (.inr e2))
    · simp only[Bool.or_eq_false_iff,Bool.not_eq_false',decide_eq_false_iff_not,decide_eq_true_eq] at e2
      obtain⟨⟨e2,e3⟩,e4⟩:=e2
      have ec:Ge s=some (wrap .u64 (cvI l),decide ((Bf s).1=[117])||decide ((Bf s).1=[85])):=by
       rw[ec,if_neg]
       rintro(h|h|h|h)
       · exact e1 h
       · exact h (congrArg some e2)
       · exact e3 h
       · exact e4 h
      have hpos:0<l.length:=by
       cases l with
       |nil=>exact absurd rfl e3
       |cons _ _=>simp
      refine Cj hpos ?_
      rw[Ak,Ak,ilt]
      refine Ap (fun e5=>?_) (fun e5=>?_)
      · have e5:1<l.length:=of_decide_eq_true e5
        refine Azr (e:=1) ha (by omega) 1014 0 0 (by omega) (Nat.zero_le _) ?_
        intro n' hn'
        obtain⟨n',rfl⟩:∃m,n'=m+1:=⟨n'-1,by omega⟩
        refine Azq ha fun h'=>?_
        show AV.tuple _=_
        rw[ec]
        show AV.tuple _=AV.tuple _
        unfold cvI
        rw[if_pos e5,List.drop_zero]
      · have e5:¬1<l.length:=of_decide_eq_false e5
        refine Azq ha fun h'=>?_
        show AV.tuple _=_
        rw[ec]
        show AV.tuple _=AV.tuple _
        unfold cvI
        rw[if_neg e5]
        have:l.headD 0=l[0]:=by
         cases l with
         |nil=>exact absurd rfl e3
         |cons _ _=>rfl
        rw[this]
  · refine Hx (fun e=>by cases e) (fun _=>?_)
    refine Hx (fun e=>by cases e) (fun _=>?_)
    refine Bz rfl ?_
    refine bad ha ?_
    rw[ec]
    exact if_pos (.inl (by simpa using e))
def Fg(c:UInt8):Nat:=if c.toNat≤57 then c.toNat-48 else if c.toNat≤70 then c.toNat-55 else c.toNat-87
def Gh(B v:Nat)(l:List UInt8):Nat:=l.foldl (fun v c=>v*B+Fg c) v
theorem Xg{B:Nat}(hB:1≤B):∀(l:List UInt8)(v:Nat),v≤Gh B v l
 |[],_=>Nat.le_refl _
 |c::l,v=>Nat.le_trans (Nat.le_trans (Nat.le_mul_of_pos_right v hB) (Nat.le_add_right _ _)) (Xg hB l (v*B+Fg c))
theorem Acj{x:UInt8}{K:Int→Prop}:asI .u8 (ub x) K=K (Int.ofNat x.toNat):=rfl
theorem Qt(n:Nat):wrap .u64 (Int.ofNat n)=Int.ofNat (n%18446744073709551616):=by
 rw[Dv]
 simp[IntKind.wrap,IntKind.bits,IntKind.signed]
theorem Ko{n:Nat}(h:n<18446744073709551616):wrap .u64 (Int.ofNat n)=Int.ofNat n:=by rw[Qt,Nat.mod_eq_of_lt h]
theorem A8c(x:UInt8):Pure PP G h0 221 [.int .u8 (Int.ofNat x.toNat)] (.int .u8 (Int.ofNat (x.toNat|||32))):=by
 refine A87 (n:=1) Bw (Bje ?_)
 unfold Ac6
 show(Bool.rec False (fN (Nat.lor x.toNat 32) (fun n=>_)) (An (Nat.ble x.toNat (intMax .u8)) (Nat.ble 32 (intMax .u8))):Prop)
 rw[Nat.ble_eq_true_of_le (show x.toNat≤intMax .u8 by have:=x.toNat_lt;show x.toNat≤255;omega)]
 show fN (Nat.lor x.toNat 32) _
 rw[Bda];rfl
theorem Axi:∀x∈Ex,57<x.toNat→97≤(x.toNat|||32)∧(x.toNat|||32)≤122∧Fg x=(x.toNat|||32)-87∧48≤x.toNat:=by decide
theorem As8:∀x∈Ex,48≤x.toNat∧x.toNat≠95∧Fg x<16:=by decide
def puV(v:Nat):AV:=if v<18446744073709551616 then .tuple [.int .u64 (Int.ofNat v),.Ie] else .tuple [.int .u64 (Int.ofNat 18446744073709551615),.iface 304 (.int .i64 (Int.ofNat 1))]
abbrev M64:Nat:=18446744073709551615
def Frame(h h':H):Prop:=h.next.nat≤h'.next.nat∧∀c,c.nat<h.next.nat→h'.at c=h.at c
theorem Aev{h:H}{q:P}{t:Tm}{m z n:Nat}{e:TypeId}{w ti:Bool}{l:List UInt8}(ha:h.at q=.row t m z e w)(hm:l.length≤m)(hc:Dx t l){i:Nat}(hi:i<l.length)(hn:n=l.length){K:AV→Prop}(hk:K (ub l[i])):Dj 1 i (.slice q 0 n 1 ti) fun v'=>ld1 v' h K:=by
 subst hn
 show(Bool.rec Am (fN (Nat.add 0 (Nat.mul i 1)) (fun q'=>ld1 (.ptr q q') h K)) (An (Nat.ble (Nat.add i 1) l.length) (Nat.beq 1 1)):Prop)
 rw[Nat.ble_eq_true_of_le (show Nat.add i 1≤l.length from hi)]
 have e1:Nat.add 0 (Nat.mul i 1)=i:=by show 0+i*1=i;omega
 rw[e1]
 show ld1 (.ptr q i) h K
 refine Jk ha (by omega) ?_
 rw[hc i hi];exact hk
section
variable{B:Nat}{s s0 set:List UInt8}{q:P}{t:Tm}{h:H}{k:KV}
theorem Auo (hB : 2 ≤ B ∧ B ≤ 16) (hset : ∀ x ∈ s, x ∈ Ex ∧ Fg x < B) (hl : s.length ≤ 1099511627776) (ha : h.at q = .row t s.length 0 TB false) (hc : Dx t s) : ∀ (n i v : Nat), 2 * (s.length - i) + 1 ≤ n → i ≤ s.length → v ≤ M64 → k (puV (Gh B v (s.drop i))) h →
    (Pf W1 k n).a1 (Int.ofNat B) false s0.length (enc s0) (Int.ofNat (M64 / B + 1)) (Int.ofNat M64) false (Int.ofNat v) (.slice q 0 s.length 1 false) (Int.ofNat s.length) (Int.ofNat i) h
  | 0, _, _, hn, _, _, _ => absurd hn (by omega)
  | n + 1, i, v, hn, hi, hv, hk => by
    refine A40 ?_
    unfold Adp
    rw [ilt]
    by_cases e : i < s.length
    · refine Bz (decide_eq_true e) ?_
      have hd : s.drop i = s[i] :: s.drop (i + 1) := List.drop_eq_getElem_cons e
      obtain ⟨hx, hdg⟩ := hset _ (List.getElem_mem e)
      obtain ⟨h48, h95, h16⟩ := As8 _ hx
      have h256 := (s[i]).toNat_lt
      have step : ∀ (h2 : h = h), (Pf W1 k n).a2 (Int.ofNat B) false s0.length (enc s0) (Int.ofNat (M64 / B + 1)) (Int.ofNat M64) false (Int.ofNat v) (Int.ofNat (Fg s[i])) (.slice q 0 s.length 1 false) (Int.ofNat s.length) (Int.ofNat i) h := by
        intro _
        obtain ⟨n, rfl⟩ : ∃ n', n = n' + 1 := ⟨n - 1, by omega⟩
        refine A4z ?_
        unfold Ado
        rw [Wb (show B < 256 by omega), Ak, ile]
        refine Ca (decide_eq_false (by omega)) ?_
        rw [ile]
        have hq := Nat.div_add_mod M64 B
        have hqm := Nat.mod_lt M64 (show 0 < B by omega)
        refine Ap (fun e1 => ?_) (fun e1 => ?_)
        · have e1 : M64 / B + 1 ≤ v := of_decide_eq_true e1
          have h1 : M64 < v * B := by
            have : (M64 / B + 1) * B ≤ v * B := Nat.mul_le_mul_right B e1
            rw [Nat.add_mul, Nat.one_mul] at this
            rw [Nat.mul_comm] at hq
            omega
          rw [hd] at hk
          have h2 : v * B + Fg s[i] ≤ Gh B v (s[i] :: s.drop (i + 1)) := Xg (by omega) _ _
          unfold puV at hk
          rw [if_neg (by show ¬ _ < M64 + 1; omega)] at hk
          exact hk
        · have e1 : ¬ M64 / B + 1 ≤ v := of_decide_eq_false e1
          have h1 : v * B ≤ M64 := by
            have : v * B ≤ M64 / B * B := Nat.mul_le_mul_right B (by omega)
            rw [Nat.mul_comm] at hq
            omega
          have hB64 : B < 18446744073709551616 := by omega
          rw [Ko hB64, Ak, show Int.ofNat v * Int.ofNat B = Int.ofNat (v * B) from rfl, Ko (show v * B < M64 + 1 by omega), Ak, Ko (show Fg s[i] < M64 + 1 by show _ < 18446744073709551616; omega), Ak, Eg, Qt, Ak, ilt]
          refine Hf ?_
          rw [ilt]
          refine Ap (fun e2 => ?_) (fun e2 => ?_)
          · have h3 : M64 < v * B + Fg s[i] := by
              simp only [Bool.or_eq_true, decide_eq_true_eq] at e2
              rcases e2 with e2 | e2
              · rcases Nat.lt_or_ge M64 (v * B + Fg s[i]) with h | h
                · exact h
                · rw [Nat.mod_eq_of_lt (show _ < M64 + 1 by omega)] at e2; omega
              · have := Nat.mod_lt (v * B + Fg s[i]) (show 0 < 18446744073709551616 by decide)
                have e2 : M64 < (v * B + Fg s[i]) % 18446744073709551616 := e2
                have : (v * B + Fg s[i]) % 18446744073709551616 < M64 + 1 := this
                omega
            rw [hd] at hk
            have h2 : v * B + Fg s[i] ≤ Gh B v (s[i] :: s.drop (i + 1)) := Xg (by omega) _ _
            unfold puV at hk
            rw [if_neg (by show ¬ _ < M64 + 1; omega)] at hk
            exact hk
          · have h3 : v * B + Fg s[i] ≤ M64 := by
              simp only [Bool.or_eq_false_iff, decide_eq_false_iff_not] at e2
              rcases Nat.lt_or_ge M64 (v * B + Fg s[i]) with h | h
              · exfalso
                have e3 : (v * B + Fg s[i]) % 18446744073709551616 = v * B + Fg s[i] - 18446744073709551616 := by
                  rw [Nat.mod_eq_sub_mod (show 18446744073709551616 ≤ v * B + Fg s[i] from h), Nat.mod_eq_of_lt (by have : v * B ≤ 18446744073709551615 := h1; omega)]
                rw [e3] at e2
                have : v * B ≤ 18446744073709551615 := h1
                omega
              · exact h
            rw [Ho (by omega), Ak, Nat.mod_eq_of_lt (show _ < M64 + 1 by omega)]
            refine Auo hB hset hl ha hc n (i + 1) _ (by omega) e h3 ?_
            rw [hd] at hk
            exact hk
      rw [Bh]
      refine Aev ha (Nat.le_refl _) hc e rfl ?_
      rw [Acj]
      refine Qm ?_
      refine Ca (by rw [Bool.and_false]) ?_
      refine Qm ?_
      rw [ile, ile]
      by_cases e1 : (s[i]).toNat ≤ 57
      · refine Bz (by rw [decide_eq_true h48, decide_eq_true e1]; rfl) ?_
        rw [Uj h48, Wb (by omega), Ak]
        have : (s[i]).toNat - 48 = Fg s[i] := by unfold Fg; rw [if_pos e1]
        rw [this]
        exact step rfl
      · refine Ca (by rw [decide_eq_false e1, Bool.and_false]) ?_
        obtain ⟨g1, g2, g3, _⟩ := Axi _ hx (by omega)
        refine Dh (A8c s[i]) ?_
        rw [Au, ile]
        refine Lo (b := true) (fun k' hk' => ?_) ?_
        · refine Dh (A8c s[i]) ?_
          rw [Au, ile, decide_eq_true g2]; exact hk'
        refine Bz (by rw [decide_eq_true g1]; rfl) ?_
        refine Dh (A8c s[i]) ?_
        rw [Au, Uj g1, Wb (by omega), Ak, Eg, Wb (by omega), Ak]
        rw [show ((s[i]).toNat ||| 32) - 97 + 10 = Fg s[i] by rw [g3]; omega]
        exact step rfl
    · refine Ca (decide_eq_false e) ?_
      have hd : s.drop i = [] := by rw [List.drop_eq_nil_iff]; omega
      rw [hd] at hk
      have hk : k (puV v) h := hk
      unfold puV at hk
      rw [if_pos (show v < M64 + 1 by omega)] at hk
      refine Fu (fun e => by cases e) (fun _ => ?_)
      exact Ca rfl hk
end
theorem cv9(l c:Nat)(h:H):Fs env h 9 115 (.str l c)=some (.slice h.next 0 l 1 false,h.new (.row (Bg (byteCells l c) 0 .e) l 0 TB false)):=by kernel_rfl
theorem Ach:∀l:List UInt8,byteCells l.length (enc l)=ubs l
 |[]=>rfl
 |x::l=>by
  obtain⟨h1,h2⟩:=Rm x l
  show(.int .u8 (.ofNat (Nat.mod (enc (x::l)) 256))::byteCells l.length (Nat.div (enc (x::l)) 256):List AV)=_
  rw[h1,h2,Ach l];rfl
theorem Ba0{K:Int→Prop}:Acz .u64 (Int.ofNat 1) (Int.ofNat 64) K=K (Int.ofNat 0):=by
 have e:wrap .u64 (Int.ofNat 1*2^(min 64 (IntKind.bits .u64)))=Int.ofNat 0:=by kernel_rfl
 show fI (wrap .u64 (Int.ofNat 1*2^(min 64 (IntKind.bits .u64)))) K=_
 rw[e,Ak]
theorem Bbb{K:Int→Prop}:Rx .u64 (Int.ofNat 18446744073709551615) (Int.ofNat 8) K=K (Int.ofNat (M64 / 8)):=by
 have e:wrap .u64 ((Int.ofNat 18446744073709551615).tdiv (Int.ofNat 8))=Int.ofNat (M64 / 8):=by kernel_rfl
 show fI (wrap .u64 ((Int.ofNat 18446744073709551615).tdiv (Int.ofNat 8))) K=_
 rw[e,Ak]
theorem Bk3{B:Nat}{s:List UInt8}{h:H}{k:KV}(hB:B=8∨B=10∨B=16)(hne:s≠[])(hset:∀x∈s,x∈Ex∧Fg x<B)(hl:s.length≤1099511627776)(hk:∀h',Frame h h'→k (puV (Gh B 0 s)) h'):W1 (.func 173) [S s,.int .i64 (Int.ofNat B),.int .i64 (Int.ofNat 64)] h k:=by
 refine A9h (n:=2*s.length+20) Bw (Bjp ?_)
 unfold Adq
 have e0:Bc s.length (enc s) 0 0=false:=by rw[La];exact decide_eq_false hne
 refine Ca e0 ?_
 refine Qm ?_
 have hB2:2≤B∧B≤16:=by omega
 refine Bz (by rw[ile,ile,decide_eq_true (show 2≤B by omega),decide_eq_true (show B≤36 by omega)];rfl) ?_
 rw[Lg,decide_eq_false (show¬B=0 by omega)]
 refine A4w ?_
 unfold Adl
 refine Ca rfl ?_
 refine Hf ?_
 refine Ca rfl ?_
 refine A4x ?_
 unfold Adm
 have main:∀n,2*s.length+2≤n→(Pf W1 k n).a3 s.length (enc s) (Int.ofNat B) (Int.ofNat 64) false s.length (enc s) (Int.ofNat (M64 / B+1)) h:=by
  intro n hn
  obtain⟨n,rfl⟩:∃n',n=n'+1:=⟨n-1,by omega⟩
  refine A4y ?_
  unfold Adn
  rw[show wrap .u64 (Int.ofNat 64)=Int.ofNat 64 by kernel_rfl,Ak]
  rw[Ba0,show wrap .u64 (Gl (Int.ofNat 0) (Int.ofNat 1))=Int.ofNat M64 by kernel_rfl,Ak,cv9,Ac,Ri,Ach]
  refine Auo hB2 hset hl (Bs _ _) (Dx.new s .e) n 0 0 (by omega) (Nat.zero_le _) (Nat.zero_le _) ?_
  rw[List.drop_zero]
  exact hk _ ⟨by rw[Aw];omega,fun c hc=>Gw hc⟩
 rcases hB with rfl|rfl|rfl
 · refine Ca rfl ?_
   refine Ca rfl ?_
   rw[show wrap .u64 (Int.ofNat 8)=Int.ofNat 8 by kernel_rfl,Ak]
   rw[Bbb,show wrap .u64 (Cl (Int.ofNat (M64 / 8)) (Int.ofNat 1))=Int.ofNat (M64 / 8+1) by kernel_rfl,Ak]
   exact main _ (by omega)
 · refine Bz rfl ?_
   exact main _ (by omega)
 · refine Ca rfl ?_
   refine Bz rfl ?_
   exact main _ (by omega)
theorem Asa(t:TypeId)(v:AV):Qk env .neq 151 (.iface t v) .Ie=some (.bool true):=by kernel_rfl
theorem Ar9:Qk env .neq 151 .Ie .Ie=some (.bool false):=by kernel_rfl
theorem Ble{B:Nat}{s:List UInt8}{h:H}{k:KV}(he:Ky h)(hB:B=8∨B=10∨B=16)(hne:s≠[])(hset:∀x∈s,x∈Ex∧Fg x<B)(hl:s.length≤1099511627776)
 (hk1:Gh B 0 s<18446744073709551616→∀h',Frame h h'→k (.tuple [.int .u64 (Int.ofNat (Gh B 0 s)),.Ie]) h') (hk2:¬Gh B 0 s<18446744073709551616→∀h' p,Frame h h'→k (.tuple [.int .u64 (Int.ofNat 18446744073709551615),.iface 306 (.ptr p 0)]) h'):W1 (.func 117) [S s,.int .i64 (Int.ofNat B),.int .i64 (Int.ofNat 64)] h k:=by
 refine A9u (n:=1) Bw (Bj4 ?_)
 unfold Aej
 refine Bk3 hB hne hset hl fun h' hf=>?_
 unfold puV
 by_cases e:Gh B 0 s<18446744073709551616
 · rw[if_pos e,Eb,Au,Eh,Ar9,Gp,Av]
   refine Ca rfl ?_
   exact hk1 e h' hf
 · rw[if_neg e,Eb,Au,Eh,Asa,Gp,Av]
   refine Bz rfl ?_
   refine Bk2 (fn:=[80,97,114,115,101,85,105,110,116]) ?_
   refine Bku (he.keep hf.1 hf.2) hl fun h2 p hn2 hf2=>⟨p,rfl,?_⟩
   exact hk2 e h2 p ⟨Nat.le_trans hf.1 hn2,fun c hc=>by rw[hf2 c (Nat.lt_of_lt_of_le hc hf.1),hf.2 c hc]⟩
end Go.Den
namespace Go.Den
open Go.RowKit
set_option maxRecDepth 100000
def Pe(r:List UInt8):Bool:=decide (r=[])||decide (r=[108])||decide (r=[76])||decide (r=[108,108])||decide (r=[76,76])
def Wz(c:UInt8):Bool:=decide (c=117)||decide (c=85)
def Vt(s:List UInt8):Bool:=match s.getLast? with
 |some c=>Wz c
 |none=>false
def Iv(s:List UInt8):Bool×Bool:=match s with
 |[]=>(false,true)
 |c::t=>if Wz c then(true,Pe t) else if Vt (c::t) then(true,Pe (c::t).dropLast) else(false,Pe (c::t))
theorem Bkh(s:List UInt8):Bc s.length (enc s) 2 27756=decide (s=[108,108]):=Dg (t:=[108,108])
theorem Bki(s:List UInt8):Bc s.length (enc s) 2 19532=decide (s=[76,76]):=Dg (t:=[76,76])
theorem Af0{r:List UInt8}{u:Bool}{h:H}{k:KV}{n:Nat}(hk:k (.tuple [.bool u,.bool (Pe r)]) h):(Ahb W1 k (n+1)).a1 r.length (enc r) u h:=by
 refine A5f ?_
 unfold Aem
 refine Hf ?_
 refine Hf ?_
 refine Hf ?_
 refine Hf ?_
 rw[La,Bdg,Bkj,Bkh,Bki]
 exact hk
theorem Blg(s:List UInt8)(hl:s.length≤1099511627776):Pure PP G h0 113 [S s] (.tuple [.bool (Iv s).1,.bool (Iv s).2]):=by
 refine A9y (n:=2) Bw (Bj8 ?_)
 unfold Aen
 cases s with
 |nil=>
  refine Bz rfl ?_
  exact Af0 (r:=[]) rfl
 |cons c t=>
  refine Ca (Nn c t) ?_
  refine Cj (s:=c::t) (Nat.zero_lt_succ _) ?_
  refine Mc (b:=decide (c=85)) (fun k' hk'=>?_) ?_
  · refine Cj (s:=c::t) (Nat.zero_lt_succ _) ?_
    rw[List.getElem_cons_zero,toNat_eq _ 85 (by decide)];exact hk'
  rw[List.getElem_cons_zero,toNat_eq _ 117 (by decide)]
  refine Ap (fun e=>?_) (fun e=>?_)
  · have e:Wz c=true:=e
    refine Ii (s:=c::t) (Nat.le_add_left 1 _) ?_
    refine Af0 (r:=t) ?_
    show AV.tuple _=AV.tuple _
    have:Iv (c::t)=(true,Pe t):=if_pos e
    rw[this]
  · have e:¬Wz c=true:=fun h=>by rw[show Wz c=false from e] at h;cases h
    have h1:1≤(c::t).length:=Nat.le_add_left 1 _
    have h2:(c::t).length-1<(c::t).length:=by omega
    have hlast:(c::t).getLast? =some ((c::t)[(c::t).length-1]):=by rw[List.getLast?_eq_getElem?,List.getElem?_eq_getElem h2]
    have hlu:Vt (c::t)=Wz ((c::t)[(c::t).length-1]):=by unfold Vt;rw[hlast]
    rw[Ah3 h1 (by omega),Ak,Bh]
    refine Cj h2 ?_
    refine Mc (b:=decide ((c::t)[(c::t).length-1]=85)) (fun k' hk'=>?_) ?_
    · rw[Ak,Bh]
      refine Cj h2 ?_
      rw[toNat_eq _ 85 (by decide)];exact hk'
    rw[toNat_eq _ 117 (by decide)]
    refine Ap (fun e2=>?_) (fun e2=>?_)
    · have e2:Wz ((c::t)[(c::t).length-1])=true:=e2
      rw[Ak,Bh]
      refine Aac (by omega) ?_
      refine Af0 ?_
      show AV.tuple _=AV.tuple _
      have:Iv (c::t)=(true,Pe (c::t).dropLast):=by
       show(if Wz c then(true,Pe t) else if Vt (c::t) then(true,Pe (c::t).dropLast) else(false,Pe (c::t)))=_
       rw[if_neg e,hlu,if_pos e2]
      rw[this,List.dropLast_eq_take]
    · have e2:¬Wz ((c::t)[(c::t).length-1])=true:=fun h=>by rw[show Wz ((c::t)[(c::t).length-1])=false from e2] at h;cases h
      refine Af0 ?_
      show AV.tuple _=AV.tuple _
      have:Iv (c::t)=(false,Pe (c::t)):=by
       show(if Wz c then(true,Pe t) else if Vt (c::t) then(true,Pe (c::t).dropLast) else(false,Pe (c::t)))=_
       rw[if_neg e,hlu,if_neg e2]
      rw[this]
def Zh(u ok:Bool)(B:Nat)(set dd:List UInt8):Option (Nat×Bool):=
 if(!ok||decide (dd=[])||!decide (Cp dd set=dd.length))=true then none else if Gh B 0 dd<18446744073709551616 then some (Gh B 0 dd,u||decide (9223372036854775807<Gh B 0 dd)) else none
def Vs(s:List UInt8):Option (Nat×Bool):=
 if Hu (Eu s Fj)=true then Zh (Iv (s.drop (Eu s Fj).length)).1 (Iv (s.drop (Eu s Fj).length)).2 16 Ex ((Eu s Fj).drop 2)
 else if(Eu s Fj).take 1=[48] then Zh (Iv (s.drop (Eu s Fj).length)).1 (Iv (s.drop (Eu s Fj).length)).2 8 Pg (Eu s Fj)
 else Zh (Iv (s.drop (Eu s Fj).length)).1 (Iv (s.drop (Eu s Fj).length)).2 10 Aab (Eu s Fj)
def Wx(o:Option (Nat×Bool)):AV:=match o with
 |some p=>.tuple [.agg [.int .u64 (Int.ofNat p.1),.bool p.2],.bool true]
 |none=>Ayx
theorem Za(o:Option (Nat×Bool)):plain (Wx o)=true:=by cases o<;>rfl
theorem Akn{p:P}{h:H}{t:Tm}{u ok:Bool}{B n:Nat}{set dd:List UInt8}{k:KV}(he:Ky h)(ha:h.at p=.row t 2 0 55 true)(hp:p.nat<h.next.nat)(hs:Wg set)(h2:2≤set.length)(hset:∀x∈set,x∈Ex∧Fg x<B)(hB:B=8∨B=10∨B=16)(hl:dd.length≤1099511627776)
 (hk:∀h',k (Wx (Zh u ok B set dd)) h'):(r64 W1 k (n+1)).a1 (.ptr p 0) dd.length (enc dd) u ok (Int.ofNat B) set.length (enc set) h:=by
 refine Bcq ?_
 unfold Al1
 have bad:Zh u ok B set dd=none→∀h:H,h.at p=.row t 2 0 55 true→(oK (Ax env (env.ty 55) [] h) fun v32 h33=>
  stn 2 (.ptr p 0) v32 h33 fun h34=>
  ldn 2 (.ptr p 0) h34 fun v35=>
  k (.tuple [v35,(.bool false)]) h34):=by
  intro e h ha
  rw[b25,Ac]
  refine Wd ha (Nat.le_refl _) rfl (by decide) (by decide) ?_
  refine Ab2 (Dd _ _ _) (by decide) ?_
  rw[gc2]
  have:=hk (h.put p (.row (Bg [.int .u64 (Int.ofNat 0),.bool false] 0 t) 2 0 55 true))
  rw[e] at this
  exact this
 refine Hf ?_
 rw[La,Bj]
 refine Mc (b:=!decide (Cp dd set=dd.length)) (fun k' hk'=>?_) ?_
 · refine Dh (A8e hs h2 dd (by omega)) ?_
   rw[Au,Lg,Bj];exact hk'
 refine Ap (fun e=>?_) (fun e=>?_)
 · exact bad (if_pos e) h ha
 · have en:Zh u ok B set dd=if Gh B 0 dd<18446744073709551616 then some (Gh B 0 dd,u||decide (9223372036854775807<Gh B 0 dd)) else none:=if_neg (by rw[e];simp)
   simp only[Bool.or_eq_false_iff,Bool.not_eq_false',decide_eq_true_eq,decide_eq_false_iff_not] at e
   obtain⟨⟨_,e1⟩,e2⟩:=e
   have hall:∀x∈dd,x∈Ex∧Fg x<B:=fun x hx=>hset x (Ra (s:=dd) (set:=set) (n:=dd.length) (by omega) (by rw[List.take_length];exact hx))
   refine Ble he hB e1 hall hl (fun hv h' hf=>?_) (fun hv h' q hf=>?_)
   · rw[if_pos hv] at en
     have ha':h'.at p=.row t 2 0 55 true:=by rw[hf.2 p hp];exact ha
     rw[Eb,Au,Eh,Ar9,Gp,Av]
     refine Ca rfl ?_
     refine Hf ?_
     rw[ilt,A8o,Ac]
     refine Wd ha' (Nat.le_refl _) rfl (by decide) (by decide) ?_
     refine Ab2 (Dd _ _ _) (by decide) ?_
     rw[gc2]
     have:=hk (h'.put p (.row (Bg [.int .u64 (Int.ofNat (Gh B 0 dd)),.bool (u||decide (9223372036854775807<Gh B 0 dd))] 0 t) 2 0 55 true))
     rw[en] at this
     exact this
   · rw[if_neg hv] at en
     have ha':h'.at p=.row t 2 0 55 true:=by rw[hf.2 p hp];exact ha
     rw[Eb,Au,Eh,Asa,Gp,Av]
     refine Bz rfl ?_
     exact bad en h' ha'
theorem Aqw(s set:List UInt8):(Eu s set).length≤s.length:=by
 unfold Eu
 rw[List.length_reverse]
 have:=(List.dropWhile_sublist (l:=s.reverse) (·∈set)).length_le
 rw[List.length_reverse] at this;exact this
theorem Awr:∀x∈Ex,x∈Ex∧Fg x<16:=by decide
theorem Awq:∀x∈Pg,x∈Ex∧Fg x<8:=by decide
theorem Aws:∀x∈Aab,x∈Ex∧Fg x<10:=by decide
theorem c64(s:List UInt8)(hl:s.length≤1099511627776):Pure PP G h1 64 [S s] (Wx (Vs s)):=by
 refine w64 (n:=2) Bw (g64 ?_)
 unfold Al2
 refine Bo ?_
 have he:Ky (h1.new Ek):=Axm.new
 have ha:(h1.new Ek).at h1.next=.row (Bg [.int .u64 (Int.ofNat 0),.bool false] 0 .e) 2 0 55 true:=Bs _ _
 have hp:h1.next.nat<(h1.new Ek).next.nat:=by rw[Aw];omega
 refine Dh (Blh A2b (by decide) s (by omega)) ?_
 rw[De]
 have hd:=Aqw s Fj
 refine Ii hd ?_
 refine Dh (Blg (s.drop (Eu s Fj).length) (by rw[List.length_drop];omega)) ?_
 rw[Eb,Av,Eh,Av]
 refine Dh (Blf (Eu s Fj)) ?_
 rw[Av]
 refine Ap (fun e=>?_) (fun e=>?_)
 · have h2:2≤(Eu s Fj).length:=by
    have e:=e
    unfold Hu at e
    rw[Bool.or_eq_true,decide_eq_true_eq,decide_eq_true_eq] at e
    rcases e with e|e<;>(have:=congrArg List.length e;simp[hx1,hx2] at this;omega)
   refine Ii h2 ?_
   refine Akn (B:=16) (set:=Ex) he ha hp As7 (by decide) Awr (by decide) (by rw[List.length_drop];omega) fun h'=>?_
   show Wx _=Wx _
   unfold Vs;rw[if_pos e]
 · have e:¬Hu (Eu s Fj)=true:=by rw[e];simp
   refine Dh (A8f (Eu s Fj) [48]) ?_
   rw[Av]
   refine Ap (fun e2=>?_) (fun e2=>?_)
   · have e2:(Eu s Fj).take 1=[48]:=of_decide_eq_true e2
     refine Akn (B:=8) (set:=Pg) he ha hp Ar3 (by decide) Awq (by decide) (by omega) fun h'=>?_
     show Wx _=Wx _
     unfold Vs;rw[if_neg e,if_pos e2]
   · have e2:¬(Eu s Fj).take 1=[48]:=of_decide_eq_false e2
     refine Akn (B:=10) (set:=Aab) he ha hp A74 (by decide) Aws (by decide) (by omega) fun h'=>?_
     show Wx _=Wx _
     unfold Vs;rw[if_neg e,if_neg e2]
end Go.Den
