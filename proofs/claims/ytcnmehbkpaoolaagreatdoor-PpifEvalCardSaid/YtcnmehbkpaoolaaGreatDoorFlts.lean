/-
 Proof.
-/
import Derived.Test.YtcnmehbkpaoolaaGreatDoorRunE
import Derived.Test.YtcnmehbkpaoolaaGreatDoorDenQ
import Derived.KernelRfl
noncomputable section
namespace Go.Den
open Go.RowKit
set_option maxRecDepth 100000
def Bb5:List (Ob FT):=List.replicate 12 .dead
def Ay2:List Loc:=[⟨0,0,0⟩,⟨1,0,0⟩,⟨2,0,0⟩,⟨3,0,0⟩,⟨4,0,0⟩,⟨5,0,0⟩,⟨6,0,0⟩,⟨7,0,0⟩,⟨8,0,0⟩,⟨9,0,0⟩,⟨10,0,0⟩,⟨11,0,0⟩]
theorem Biv(w:World):Sim (mu0 Ay2) (Lf Bb5) w:=Yo rfl rfl fun i o c h _=>by
 have:o=.dead:=by
  have:=List.mem_of_getElem? h
  exact List.eq_of_mem_replicate this
 subst this;trivial
theorem A5n:Gy (mu0 Ay2) G:=Tc fun g hg=>by
 have hg:g<12:=hg
 refine⟨⟨g,0,0⟩,?_,rfl,rfl⟩
 match g,hg with
 |0,_|1,_|2,_|3,_|4,_|5,_|6,_|7,_|8,_|9,_|10,_|11,_=>rfl
abbrev h0:H:=Lf Bb5
abbrev PP:Program:=Proofs.Tryz.prog
abbrev W1:CF:=SW PP G
theorem use{F:FuncId}{args:List AV}{r:AV}(hp:Pure PP G h0 F args r)(ha:Nu args=true)(hr:plain r=true){h:H}{k:KV}(hk:k r h):W1 (.func F) args h k:=Aru Biv A5n rfl hp ha hr hk
theorem Dh{F:FuncId}{args:List AV}{r:AV}(hp:Pure PP G h0 F args r){h:H}{k:KV}(hk:k r h)(ha:Nu args=true:=by rfl)(hr:plain r=true:=by rfl):W1 (.func F) args h k:=use hp ha hr hk
theorem Bfi(s t:List UInt8):Pure PP G h0 171 [S s,S t] (.bool (decide (s.take t.length=t))):=by
 refine A9j (n:=1) Bw (Bjr ?_)
 unfold Ads
 refine Fu (fun e=>?_) (fun e=>?_)
 · rw[Iz,decide_eq_true_eq] at e
   have e:t.length≤s.length:=Int.ofNat_le.1 e
   refine Aac e ?_
   rw[Dg]
 · rw[Iz,decide_eq_false_iff_not] at e
   have e:¬t.length≤s.length:=fun h=>e (Int.ofNat_le.2 h)
   have:¬s.take t.length=t:=fun h=>by
    have:=congrArg List.length h
    simp at this;omega
   show AV.bool false=_
   rw[decide_eq_false this]
theorem A8f(s t:List UInt8):Pure PP G h0 115 [S s,S t] (.bool (decide (s.take t.length=t))):=by
 refine A9w (n:=1) Bw (Bj6 ?_)
 exact Dh (Bfi s t) (rfl:AV.bool _=AV.bool _)
def hx1:List UInt8:=[48,120]
def hx2:List UInt8:=[48,88]
def Hu(s:List UInt8):Bool:=decide (s.take 2=hx1)||decide (s.take 2=hx2)
def Aab:List UInt8:=[48,49,50,51,52,53,54,55,56,57]
def Pg:List UInt8:=[48,49,50,51,52,53,54,55]
def Ex:List UInt8:=[48,49,50,51,52,53,54,55,56,57,97,98,99,100,101,102,65,66,67,68,69,70]
def Fj:List UInt8:=[117,85,108,76]
def tbl(s:List UInt8):List AV:=(List.range 256).map fun i=>.bool (s.any fun b=>b.toNat==i)
theorem Xh(s:List UInt8):(tbl s).length=256:=by unfold tbl;simp
theorem Ald(s:List UInt8)(x:UInt8):(tbl s).getD x.toNat .undef=.bool (decide (x∈s)):=by
 have hx:=x.toNat_lt
 unfold tbl
 rw[List.getD_eq_getElem?_getD,List.getElem?_map,List.getElem?_range (by omega)]
 simp only[Option.map_some,Option.getD_some]
 congr 1
 rw[Bool.eq_iff_iff]
 simp[UInt8.toNat_inj]
def Wg(s:List UInt8):Prop:=Pure PP G h0 168 [S s] (.tuple [.agg (tbl s),.bool true])
theorem pure_run{F:FuncId}{args:List AV}{r:AV}(h:calls 100000 100000 (.func F) args h0 (fun v _=>v=r)=(r=r)):Pure PP G h0 F args r:=
 Ayp (Ve 100000 100000) (h.mpr rfl)
theorem A74:Wg Aab:=pure_run (by kernel_rfl)
theorem Ar3:Wg Pg:=pure_run (by kernel_rfl)
theorem As7:Wg Ex:=pure_run (by kernel_rfl)
theorem A2b:Wg Fj:=pure_run (by kernel_rfl)
theorem a69:Ack env 264=some (256,4):=by kernel_rfl
theorem t4':(env.ty 4).map (·.size)=some 1:=by kernel_rfl
theorem t4:∃ei,env.ty 4=some ei∧ei.size=1:=by
 have h:=t4'
 cases e:env.ty 4 with
 |none=>rw[e] at h;cases h
 |some ei=>rw[e] at h;exact⟨ei,rfl,Option.some.inj h⟩
theorem Bfh{h:H}{b:P}{t:Tm}{z:Nat}{e:TypeId}{w:Bool}(ha:h.at b=.row t 256 z e w){x:UInt8}{β:Bool}(hx:Co t x.toNat=.bool β){k:KV}(hk:k (.bool β) h):
 W1 (.func 215) [.ptr b 0,.int .u8 (Int.ofNat x.toNat)] h k:=by
 refine A89 (n:=1) Bw (Bjg ?_)
 unfold Ac8
 have e1:Bd (.ptr b 0) h=some (.ptr b 0,h):=rfl
 rw[e1,Ac]
 have e2:Ep env 264 (.ptr b 0) (Bt (.int .u8 (Int.ofNat x.toNat))) h=some (.ptr b x.toNat,h):=by
  show Mv env 264 b 0 x.toNat h=_
  unfold Mv
  rw[a69]
  obtain⟨ei,h1,h2⟩:=t4
  have hb:Nat.ble (Nat.add x.toNat 1) 256=true:=Nat.ble_eq_true_of_le (by have:=x.toNat_lt;show x.toNat+1≤256;omega)
  show(Bool.rec (motive:=fun _=>Option (AV×H)) none (Option.rec (motive:=fun _=>Option (AV×H)) none (fun ei=>some (.ptr b (Nat.add 0 (Nat.mul x.toNat ei.size)),h)) (env.ty 4)) (Nat.ble (Nat.add x.toNat 1) 256))=_
  rw[hb,h1]
  show some (AV.ptr b (0+x.toNat*ei.size),h)=_
  rw[h2,Nat.zero_add,Nat.mul_one]
 rw[e2,Ac]
 refine Jk ha x.toNat_lt ?_
 rw[hx,Av];exact hk
theorem Bfg {h : H} {b : P} {t : Tm} {z : Nat} {e : TypeId} {w : Bool} {set : List UInt8} (ha : h.at b = .row t 256 z e w) (ht : ∀ x : UInt8, Co t x.toNat = .bool (decide (x ∈ set))) {k : KV} :
    ∀ (s : List UInt8) (n : Nat), s.length < n → k (S (s.dropWhile (· ∈ set))) h → (Ag7 W1 k n).a1 s.length (enc s) (.ptr b 0) h
  | _, 0, hn, _ => absurd hn (Nat.not_lt_zero _)
  | [], n + 1, _, hk => by
    refine Asq ?_
    unfold Yr
    exact Ca rfl hk
  | x :: s, n + 1, hn, hk => by
    refine Asq ?_
    unfold Yr
    refine Bz (by rw [Ff]; simp) ?_
    refine Cj (Nat.zero_lt_succ _) ?_
    refine Bfh ha (ht x) ?_
    rw [Av]
    rw [Bj]
    refine Ap (fun e => ?_) (fun e => ?_)
    · have e : ¬ x ∈ set := by simpa using e
      have : (x :: s).dropWhile (· ∈ set) = x :: s := by simp [e]
      rw [this] at hk; exact hk
    · have e : x ∈ set := by simpa using e
      have : (x :: s).dropWhile (· ∈ set) = s.dropWhile (· ∈ set) := by simp [e]
      rw [this] at hk
      exact Ii (s := x :: s) (Nat.le_add_left 1 _) (Bfg ha ht s n (Nat.lt_of_succ_lt_succ hn) hk)
theorem Yk{s t:List UInt8}(h:s≠t):Bc s.length (enc s) t.length (enc t)=false:=by rw[Dg,decide_eq_false h]
theorem Bk4{set:List UInt8}(hs:Wg set)(h2:2≤set.length)(s:List UInt8):Pure PP G h0 172 [S s,S set] (S (s.dropWhile (·∈set))):=by
 refine A9i (n:=1) Bw (Bjq ?_)
 unfold Adr
 have e0:Bc set.length (enc set) 0 0=false:=Yk (t:=[]) (fun h=>by subst h;simp at h2)
 rw[e0]
 have e1:Bc s.length (enc s) 0 0=decide (s=[]):=Dg (t:=[])
 rw[e1]
 refine Hf ?_
 refine Ap (fun e=>?_) (fun e=>?_)
 · have e:s=[]:=by simpa using e
   subst e;rfl
 · have e:¬s=[]:=by simpa using e
   refine Fu (fun e=>?_) (fun _=>?_)
   · rw[Fz,beq_iff_eq] at e
     have:set.length=1:=by have:=Int.ofNat.inj e;exact this
     omega
   · refine Ca rfl ?_
     refine Dh hs ?_
     rw[Eb,Eh,Av]
     refine Bo ?_
     refine Ahm (zs:=List.replicate 256 (.bool false)) (by simp) (Xh _) (by omega) ?_
     intro h' ha
     refine Bz rfl ?_
     refine A88 (n:=s.length+2) Bw (Bjf ?_)
     unfold Ac7
     refine Bfg (set:=set) ha (fun x=>?_) s _ (by omega) ?_
     · rw[Cd,if_pos ⟨Nat.zero_le _,by rw[Xh];have:=x.toNat_lt;omega⟩,Nat.sub_zero]
       exact Ald set x
     · exact De.mpr rfl
theorem wrap64{n:Int}(h1: -9223372036854775808≤n)(h2:n≤9223372036854775807):wrap .i64 n=n:=by
 rw[Dv]
 simp[IntKind.wrap,IntKind.bits,IntKind.signed]
 omega
def Cp(s set:List UInt8):Nat:=(s.takeWhile (·∈set)).length
theorem Kr(s set:List UInt8):Cp s set≤s.length:=by
 unfold Cp
 exact(List.takeWhile_sublist _).length_le
theorem Aty(s set:List UInt8):s.length=Cp s set+(s.dropWhile (·∈set)).length:=by
 have:=congrArg List.length (List.takeWhile_append_dropWhile (p:=(·∈set)) (l:=s))
 rw[List.length_append] at this
 exact this.symm
theorem A8e{set:List UInt8}(hs:Wg set)(h2:2≤set.length)(s:List UInt8)(hl:s.length≤4611686018427387904):Pure PP G h0 116 [S s,S set] (.int .i64 (Int.ofNat (Cp s set))):=by
 refine A9v (n:=1) Bw (Bj5 ?_)
 unfold Aek
 refine Dh (Bk4 hs h2 s) ?_
 rw[De,Ak,Lu]
 have e:=Aty s set
 have:Int.ofNat s.length-Int.ofNat (s.dropWhile (·∈set)).length=Int.ofNat (Cp s set):=by
  show(s.length:Int)-((s.dropWhile (·∈set)).length:Int)=(Cp s set:Int)
  omega
 rw[this]
 have hr:=Kr s set
 rw[wrap64 (by show _≤((Cp s set:Nat):Int);omega) (by show((Cp s set:Nat):Int)≤_;omega)]
def Ww(L:List UInt8)(x:UInt8):Int:=Oe x.toNat L.length (enc L) 0
theorem Arv(L:List UInt8)(x:UInt8):(Ww L x<0)↔x∉L:=by
 unfold Ww
 rw[Tb (by have:=x.toNat_lt;omega)]
 have ex:x.toNat.toUInt8=x:=by rw[Nat.toUInt8,UInt8.ofNat_toNat]
 rw[ex]
 cases h:L.findIdx? (·==x) with
 |none=>
  rw[List.findIdx?_eq_none_iff] at h
  constructor
  · intro _ hm;have:=h x hm;simp at this
  · intro _;show(-1:Int)<0;omega
 |some j=>
  have hj:=List.findIdx?_eq_some_iff_getElem.1 h
  obtain⟨hlt,he,_⟩:=hj
  constructor
  · intro hn;exfalso
    have hn:((0+j:Nat):Int)<0:=hn
    omega
  · intro hm;exact absurd (by rw[←(beq_iff_eq.1 he)];exact List.getElem_mem hlt) hm
theorem Bkt(L:List UInt8)(x:UInt8):Pure PP G h0 257 [S L,.int .u8 (Int.ofNat x.toNat)] (.int .i64 (Ww L x)):=by
 refine A8x ?_
 refine Bz rfl ?_
 have hx:Nat.ble x.toNat 255=true:=Nat.ble_eq_true_of_le (by have:=x.toNat_lt;omega)
 have e:Ir .indexByte [S L,.int .u8 (Int.ofNat x.toNat)] h0=some (.int .i64 (Ww L x),h0):=by
  show(Bool.rec (motive:=fun _=>Option (AV×H)) none (some (.int .i64 (Oe x.toNat L.length (enc L) 0),h0)) (Nat.ble x.toNat 255))=_
  rw[hx];rfl
 rw[e,Ac]
theorem Bkw(L:List UInt8)(x:UInt8):Pure PP G h0 207 [S L,.int .u8 (Int.ofNat x.toNat)] (.int .i64 (Ww L x)):=by
 refine A9b (n:=1) Bw (Bji ?_)
 unfold Adb
 refine Dh (Bkt L x) ?_
 rw[Au]
theorem Bfk(L:List UInt8)(x:UInt8):Pure PP G h0 160 [S L,.int .u8 (Int.ofNat x.toNat)] (.int .i64 (Ww L x)):=by
 refine A9o (n:=1) Bw (Bjw ?_)
 unfold Ad2
 refine Dh (Bkw L x) ?_
 rw[Au]
theorem toNat_eq(c:UInt8)(n:Nat)(hn:n<256):Bm (Int.ofNat c.toNat) (Int.ofNat n)=decide (c=UInt8.ofNat n):=by
 rw[Fz,Bool.eq_iff_iff,beq_iff_eq,decide_eq_true_eq]
 constructor
 · intro h
   have h:c.toNat=n:=Int.ofNat.inj h
   subst h;simp
 · intro h;subst h
   show Int.ofNat _=Int.ofNat _
   congr 1
   simp;omega
theorem La(s:List UInt8):Bc s.length (enc s) 0 0=decide (s=[]):=Dg (t:=[])
theorem Nn(c:UInt8)(r:List UInt8):Bc (c::r).length (enc (c::r)) 0 0=false:=Yk (t:=[]) (by simp)
def Eu(s set:List UInt8):List UInt8:=(s.reverse.dropWhile (·∈set)).reverse
theorem Ajm(s set:List UInt8)(x:UInt8):Eu (s++[x]) set=if x∈set then Eu s set else s++[x]:=by
 unfold Eu
 rw[List.reverse_append,List.reverse_singleton,List.singleton_append,List.dropWhile_cons]
 by_cases h:x∈set<;>simp[h]
theorem Aup {h : H} {b : P} {t : Tm} {z : Nat} {e : TypeId} {w : Bool} {set : List UInt8} (ha : h.at b = .row t 256 z e w) (ht : ∀ x : UInt8, Co t x.toNat = .bool (decide (x ∈ set))) {k : KV} :
    ∀ (n : Nat) (s : List UInt8), s.length ≤ 4611686018427387904 → s.length < n → k (S (Eu s set)) h → (Ag9 W1 k n).a1 s.length (enc s) (.ptr b 0) h
  | 0, _, _, hn, _ => absurd hn (Nat.not_lt_zero _)
  | n + 1, s, hl, hn, hk => by
    refine A41 ?_
    unfold Adt
    rcases List.eq_nil_or_concat s with rfl | ⟨r, x, rfl⟩
    · exact Ca rfl hk
    · rw [List.concat_eq_append] at hl hn hk ⊢
      have hlen : (r ++ [x]).length = r.length + 1 := by simp
      refine Bz (by rw [Ff]; simp) ?_
      rw [Lu]
      have w1 : wrap .i64 (Int.ofNat (r ++ [x]).length - Int.ofNat 1) = Int.ofNat r.length := by
        rw [hlen]
        have : Int.ofNat (r.length + 1) - Int.ofNat 1 = Int.ofNat r.length := by show ((r.length + 1 : Nat) : Int) - ((1 : Nat) : Int) = (r.length : Int); omega
        rw [this, wrap64 (by show _ ≤ ((r.length : Nat) : Int); omega) (by show ((r.length : Nat) : Int) ≤ _; omega)]
      rw [Ak, w1, Bh]
      refine Cj (by rw [hlen]; omega) ?_
      have hx : (r ++ [x])[r.length]'(by rw [hlen]; omega) = x := by simp
      rw [hx]
      refine Bfh ha (ht x) ?_
      rw [Av, Bj]
      rw [Ajm] at hk
      refine Ap (fun e => ?_) (fun e => ?_)
      · have e : ¬ x ∈ set := by simpa using e
        rw [if_neg e] at hk; exact hk
      · have e : x ∈ set := by simpa using e
        rw [if_pos e] at hk
        rw [Ak, Bh]
        refine Aac (by rw [hlen]; omega) ?_
        have ht' : (r ++ [x]).take r.length = r := by simp
        rw [ht']
        exact Aup ha ht n r (by omega) (by omega) hk
theorem Mc{a b:Bool}{h:H}{Q:(Bool→H→Prop)→Prop}{k:Bool→H→Prop}(hq:∀k',k' b h→Q k')(hk:k (a||b) h):Ar (fun k1=>gate false a (Q k1) (k1 true h)) k:=by
 cases a with
 |true=>exact hk
 |false=>exact hq k hk
theorem Lo{a b:Bool}{h:H}{Q:(Bool→H→Prop)→Prop}{k:Bool→H→Prop}(hq:∀k',k' b h→Q k')(hk:k (a&&b) h):Ar (fun k1=>gate true a (Q k1) (k1 false h)) k:=by
 cases a with
 |true=>exact hq k hk
 |false=>exact hk
theorem Bde(x y:Bool):Qk env .eql 4 (.bool x) (.bool y)=some (.bool (Af5 x y)):=by kernel_rfl
theorem Gp{α:Type}{x:α}{K:α→Prop}:oV (some x) K=K x:=rfl
theorem Wa(b:Bool):Af5 b b=true:=by cases b<;>rfl
theorem Cv{m:Nat}(h:m≤9223372036854775807):wrap .i64 (Int.ofNat m)=Int.ofNat m:=wrap64 (by show _≤((m:Nat):Int);omega) (by show((m:Nat):Int)≤_;omega)
end Go.Den
