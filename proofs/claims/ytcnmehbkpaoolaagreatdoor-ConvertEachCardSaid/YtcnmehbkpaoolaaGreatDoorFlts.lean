/-
 Proof.
-/
import Derived.Test.YtcnmehbkpaoolaaGreatDoorRunE
import Derived.Test.YtcnmehbkpaoolaaGreatDoorDenQ
import Derived.KernelRfl
noncomputable section
namespace Go.Den
open Go.RowKit
set_option maxRecDepth 100000
def Bc6:List (Ob FT):=List.replicate 12 .dead
def A1f:List Loc:=[⟨0,0,0⟩,⟨1,0,0⟩,⟨2,0,0⟩,⟨3,0,0⟩,⟨4,0,0⟩,⟨5,0,0⟩,⟨6,0,0⟩,⟨7,0,0⟩,⟨8,0,0⟩,⟨9,0,0⟩,⟨10,0,0⟩,⟨11,0,0⟩]
theorem Bi0(w:World):Sim (mu0 A1f) (Uo Bc6) w:=Ahf rfl rfl fun i o c h _=>by
 have:o=.dead:=by
  have:=List.mem_of_getElem? h
  exact List.eq_of_mem_replicate this
 subst this;trivial
theorem A5o:Fw (mu0 A1f) G:=Aan fun g hg=>by
 have hg:g<12:=hg
 refine⟨⟨g,0,0⟩,?_,rfl,rfl⟩
 match g,hg with
 |0,_|1,_|2,_|3,_|4,_|5,_|6,_|7,_|8,_|9,_|10,_|11,_=>rfl
abbrev h0:H:=Uo Bc6
abbrev PP:Program:=Proofs.Tryz.prog
abbrev W1:CF:=SW PP G
theorem use{F:FuncId}{args:List AV}{r:AV}(hp:Pure PP G h0 F args r)(ha:Ni args=true)(hr:plain r=true){h:H}{k:KV}(hk:k r h):W1 (.func F) args h k:=Asz Bi0 A5o rfl hp ha hr hk
theorem Dz{F:FuncId}{args:List AV}{r:AV}(hp:Pure PP G h0 F args r){h:H}{k:KV}(hk:k r h)(ha:Ni args=true:=by rfl)(hr:plain r=true:=by rfl):W1 (.func F) args h k:=use hp ha hr hk
theorem Bgb(s t:List UInt8):Pure PP G h0 171 [S s,S t] (.bool (decide (s.take t.length=t))):=by
 refine A91 (n:=1) Bl (Bj6 ?_)
 unfold Ad7
 refine Gi (fun e=>?_) (fun e=>?_)
 · rw[Je,decide_eq_true_eq] at e
   have e:t.length≤s.length:=Int.ofNat_le.1 e
   refine Alm e ?_
   rw[Df]
 · rw[Je,decide_eq_false_iff_not] at e
   have e:¬t.length≤s.length:=fun h=>e (Int.ofNat_le.2 h)
   have:¬s.take t.length=t:=fun h=>by
    have:=congrArg List.length h
    simp at this;omega
   show AV.bool false=_
   rw[decide_eq_false this]
theorem A0m(s t:List UInt8):Pure PP G h0 115 [S s,S t] (.bool (decide (s.take t.length=t))):=by
 refine Bao (n:=1) Bl (Bkt ?_)
 exact Dz (Bgb s t) (rfl:AV.bool _=AV.bool _)
def hx1:List UInt8:=[48,120]
def hx2:List UInt8:=[48,88]
def Nt(s:List UInt8):Bool:=decide (s.take 2=hx1)||decide (s.take 2=hx2)
def Im:List UInt8:=[48,49,50,51,52,53,54,55,56,57]
def Zs:List UInt8:=[48,49,50,51,52,53,54,55]
def Gg:List UInt8:=[48,49,50,51,52,53,54,55,56,57,97,98,99,100,101,102,65,66,67,68,69,70]
def Lz:List UInt8:=[117,85,108,76]
def tbl(s:List UInt8):List AV:=(List.range 256).map fun i=>.bool (s.any fun b=>b.toNat==i)
theorem Xq(s:List UInt8):(tbl s).length=256:=by unfold tbl;simp
theorem Amn(s:List UInt8)(x:UInt8):(tbl s).getD x.toNat .undef=.bool (decide (x∈s)):=by
 have hx:=x.toNat_lt
 unfold tbl
 rw[List.getD_eq_getElem?_getD,List.getElem?_map,List.getElem?_range (by omega)]
 simp only[Option.map_some,Option.getD_some]
 congr 1
 rw[Bool.eq_iff_iff]
 simp[UInt8.toNat_inj]
def Ub(s:List UInt8):Prop:=Pure PP G h0 168 [S s] (.tuple [.agg (tbl s),.bool true])
theorem pure_run{F:FuncId}{args:List AV}{r:AV}(h:calls 100000 100000 (.func F) args h0 (fun v _=>v=r)=(r=r)):Pure PP G h0 F args r:=
 Ahc (Kx 100000 100000) (h.mpr rfl)
theorem Alk:Ub Im:=pure_run (by kernel_rfl)
theorem As9:Ub Zs:=pure_run (by kernel_rfl)
theorem Ak8:Ub Gg:=pure_run (by kernel_rfl)
theorem A3c:Ub Lz:=pure_run (by kernel_rfl)
theorem a69:Aa8 env 264=some (256,4):=by kernel_rfl
theorem t4':(env.ty 4).map (·.size)=some 1:=by kernel_rfl
theorem t4:∃ei,env.ty 4=some ei∧ei.size=1:=by
 have h:=t4'
 cases e:env.ty 4 with
 |none=>rw[e] at h;cases h
 |some ei=>rw[e] at h;exact⟨ei,rfl,Option.some.inj h⟩
theorem Bga{h:H}{b:P}{t:Tm}{z:Nat}{e:TypeId}{w:Bool}(ha:h.at b=.row t 256 z e w){x:UInt8}{β:Bool}(hx:Bh t x.toNat=.bool β){k:KV}(hk:k (.bool β) h):
 W1 (.func 215) [.ptr b 0,.int .u8 (Int.ofNat x.toNat)] h k:=by
 refine A9u (n:=1) Bl (Bjz ?_)
 unfold Adt
 have e1:Ck (.ptr b 0) h=some (.ptr b 0,h):=rfl
 rw[e1,Ae]
 have e2:Cw env 264 (.ptr b 0) (Bc (.int .u8 (Int.ofNat x.toNat))) h=some (.ptr b x.toNat,h):=by
  show Jl env 264 b 0 x.toNat h=_
  unfold Jl
  rw[a69]
  obtain⟨ei,h1,h2⟩:=t4
  have hb:Nat.ble (Nat.add x.toNat 1) 256=true:=Nat.ble_eq_true_of_le (by have:=x.toNat_lt;show x.toNat+1≤256;omega)
  show(Bool.rec (motive:=fun _=>Option (AV×H)) none (Option.rec (motive:=fun _=>Option (AV×H)) none (fun ei=>some (.ptr b (Nat.add 0 (Nat.mul x.toNat ei.size)),h)) (env.ty 4)) (Nat.ble (Nat.add x.toNat 1) 256))=_
  rw[hb,h1]
  show some (AV.ptr b (0+x.toNat*ei.size),h)=_
  rw[h2,Nat.zero_add,Nat.mul_one]
 rw[e2,Ae]
 refine Cz ha x.toNat_lt ?_
 rw[hx,Ce];exact hk
theorem Bf9 {h : H} {b : P} {t : Tm} {z : Nat} {e : TypeId} {w : Bool} {set : List UInt8} (ha : h.at b = .row t 256 z e w) (ht : ∀ x : UInt8, Bh t x.toNat = .bool (decide (x ∈ set))) {k : KV} :
    ∀ (s : List UInt8) (n : Nat), s.length < n → k (S (s.dropWhile (· ∈ set))) h → (Ahs W1 k n).a1 s.length (enc s) (.ptr b 0) h
  | _, 0, hn, _ => absurd hn (Nat.not_lt_zero _)
  | [], n + 1, _, hk => by
    refine Atz ?_
    unfold Yz
    exact Bo rfl hk
  | x :: s, n + 1, hn, hk => by
    refine Atz ?_
    unfold Yz
    refine Cj (by rw [Fl]; simp) ?_
    refine Cn (Nat.zero_lt_succ _) ?_
    refine Bga ha (ht x) ?_
    rw [Ce]
    rw [Br]
    refine Az (fun e => ?_) (fun e => ?_)
    · have e : ¬ x ∈ set := by simpa using e
      have : (x :: s).dropWhile (· ∈ set) = x :: s := by simp [e]
      rw [this] at hk; exact hk
    · have e : x ∈ set := by simpa using e
      have : (x :: s).dropWhile (· ∈ set) = s.dropWhile (· ∈ set) := by simp [e]
      rw [this] at hk
      exact Ft (s := x :: s) (Nat.le_add_left 1 _) (Bf9 ha ht s n (Nat.lt_of_succ_lt_succ hn) hk)
theorem Tn{s t:List UInt8}(h:s≠t):Bm s.length (enc s) t.length (enc t)=false:=by rw[Df,decide_eq_false h]
theorem Bl1{set:List UInt8}(hs:Ub set)(h2:2≤set.length)(s:List UInt8):Pure PP G h0 172 [S s,S set] (S (s.dropWhile (·∈set))):=by
 refine A90 (n:=1) Bl (Bj5 ?_)
 unfold Ad6
 have e0:Bm set.length (enc set) 0 0=false:=Tn (t:=[]) (fun h=>by subst h;simp at h2)
 rw[e0]
 have e1:Bm s.length (enc s) 0 0=decide (s=[]):=Df (t:=[])
 rw[e1]
 refine Jx ?_
 refine Az (fun e=>?_) (fun e=>?_)
 · have e:s=[]:=by simpa using e
   subst e;rfl
 · have e:¬s=[]:=by simpa using e
   refine Gi (fun e=>?_) (fun _=>?_)
   · rw[Fi,beq_iff_eq] at e
     have:set.length=1:=by have:=Int.ofNat.inj e;exact this
     omega
   · refine Bo rfl ?_
     refine Dz hs ?_
     rw[Ep,Ez,Ce]
     refine Ek ?_
     refine Ah7 (zs:=List.replicate 256 (.bool false)) (by simp) (Xq _) (by omega) ?_
     intro h' ha
     refine Cj rfl ?_
     refine A9t (n:=s.length+2) Bl (Bjy ?_)
     unfold Ads
     refine Bf9 (set:=set) ha (fun x=>?_) s _ (by omega) ?_
     · rw[Ar,if_pos ⟨Nat.zero_le _,by rw[Xq];have:=x.toNat_lt;omega⟩,Nat.sub_zero]
       exact Amn set x
     · exact Cl.mpr rfl
theorem wrap64{n:Int}(h1: -9223372036854775808≤n)(h2:n≤9223372036854775807):wrap .i64 n=n:=by
 rw[Fy]
 simp[IntKind.wrap,IntKind.bits,IntKind.signed]
 omega
def Cm(s set:List UInt8):Nat:=(s.takeWhile (·∈set)).length
theorem Lg(s set:List UInt8):Cm s set≤s.length:=by
 unfold Cm
 exact(List.takeWhile_sublist _).length_le
theorem Avc(s set:List UInt8):s.length=Cm s set+(s.dropWhile (·∈set)).length:=by
 have:=congrArg List.length (List.takeWhile_append_dropWhile (p:=(·∈set)) (l:=s))
 rw[List.length_append] at this
 exact this.symm
theorem Aqo{set:List UInt8}(hs:Ub set)(h2:2≤set.length)(s:List UInt8)(hl:s.length≤4611686018427387904):Pure PP G h0 116 [S s,S set] (.int .i64 (Int.ofNat (Cm s set))):=by
 refine Ban (n:=1) Bl (Bks ?_)
 unfold Ae5
 refine Dz (Bl1 hs h2 s) ?_
 rw[Cl,As,Uj]
 have e:=Avc s set
 have:Int.ofNat s.length-Int.ofNat (s.dropWhile (·∈set)).length=Int.ofNat (Cm s set):=by
  show(s.length:Int)-((s.dropWhile (·∈set)).length:Int)=(Cm s set:Int)
  omega
 rw[this]
 have hr:=Lg s set
 rw[wrap64 (by show _≤((Cm s set:Nat):Int);omega) (by show((Cm s set:Nat):Int)≤_;omega)]
def Xk(L:List UInt8)(x:UInt8):Int:=Ns x.toNat L.length (enc L) 0
theorem Zn(L:List UInt8)(x:UInt8):(Xk L x<0)↔x∉L:=by
 unfold Xk
 rw[Sv (by have:=x.toNat_lt;omega)]
 have ex:x.toNat.toUInt8=x:=by rw[Nat.toUInt8,UInt8.ofNat_toNat]
 rw[ex]
 cases h:L.findIdx? (·==x) with
 |none=>
  rw[List.findIdx?_eq_none_iff] at h
  constructor
  · intro _ hm;have:=h x hm;simp at this
  · intro _;show(-1:Int)<0;omega
 |some j=>
  have hj:=List.findIdx?_eq_some_iff_getElem.1 h
  obtain⟨hlt,he,_⟩:=hj
  constructor
  · intro hn;exfalso
    have hn:((0+j:Nat):Int)<0:=hn
    omega
  · intro hm;exact absurd (by rw[←(beq_iff_eq.1 he)];exact List.getElem_mem hlt) hm
theorem Blt(L:List UInt8)(x:UInt8):Pure PP G h0 257 [S L,.int .u8 (Int.ofNat x.toNat)] (.int .i64 (Xk L x)):=by
 refine A9h ?_
 refine Cj rfl ?_
 have hx:Nat.ble x.toNat 255=true:=Nat.ble_eq_true_of_le (by have:=x.toNat_lt;omega)
 have e:Hf .indexByte [S L,.int .u8 (Int.ofNat x.toNat)] h0=some (.int .i64 (Xk L x),h0):=by
  show(Bool.rec (motive:=fun _=>Option (AV×H)) none (some (.int .i64 (Ns x.toNat L.length (enc L) 0),h0)) (Nat.ble x.toNat 255))=_
  rw[hx];rfl
 rw[e,Ae]
theorem Blw(L:List UInt8)(x:UInt8):Pure PP G h0 207 [S L,.int .u8 (Int.ofNat x.toNat)] (.int .i64 (Xk L x)):=by
 refine A9w (n:=1) Bl (Bj1 ?_)
 unfold Adw
 refine Dz (Blt L x) ?_
 rw[Au]
theorem A8r(L:List UInt8)(x:UInt8):Pure PP G h0 160 [S L,.int .u8 (Int.ofNat x.toNat)] (.int .i64 (Xk L x)):=by
 refine A97 (n:=1) Bl (Bkc ?_)
 unfold Aei
 refine Dz (Blw L x) ?_
 rw[Au]
def Ow:List UInt8→List UInt8
 |[]=>[]
 |c::r=>if c=43∨c=45 then r else c::r
def Qc(s L:List UInt8):List UInt8×Bool:=match s with
 |[]=>([],false)
 |x::r=>if x∈L then(if Cm (Ow r) Im=0 then(x::r,false) else((Ow r).drop (Cm (Ow r) Im),true)) else(x::r,false)
theorem Azu{x:UInt8}{L:List UInt8}(h:x∈L)(r:List UInt8):Qc (x::r) L=(if Cm (Ow r) Im=0 then(x::r,false) else((Ow r).drop (Cm (Ow r) Im),true)):=if_pos h
theorem Ai2{x:UInt8}{L:List UInt8}(h:x∉L)(r:List UInt8):Qc (x::r) L=(x::r,false):=if_neg h
theorem Ara(r:List UInt8):(Ow r).length≤r.length:=by
 cases r with
 |nil=>exact Nat.le_refl _
 |cons c r=>
  show(if c=43∨c=45 then r else c::r).length≤_
  split
  · exact Nat.le_succ _
  · exact Nat.le_refl _
theorem toNat_eq(c:UInt8)(n:Nat)(hn:n<256):Ba (Int.ofNat c.toNat) (Int.ofNat n)=decide (c=UInt8.ofNat n):=by
 rw[Fi,Bool.eq_iff_iff,beq_iff_eq,decide_eq_true_eq]
 constructor
 · intro h
   have h:c.toNat=n:=Int.ofNat.inj h
   subst h;simp
 · intro h;subst h
   show Int.ofNat _=Int.ofNat _
   congr 1
   simp;omega
theorem Gj(s:List UInt8):Bm s.length (enc s) 0 0=decide (s=[]):=Df (t:=[])
theorem Ks(c:UInt8)(r:List UInt8):Bm (c::r).length (enc (c::r)) 0 0=false:=Tn (t:=[]) (by simp)
theorem Atv{a b:Bool}{h:H}{k:Bool→H→Prop}:An (fun k1=>gate false a (k1 b h) (k1 true h)) k=k (a||b) h:=by
 cases a<;>rfl
theorem Ap2{a b:Bool}{h:H}{k:Bool→H→Prop}:An (fun k1=>gate true a (k1 b h) (k1 false h)) k=k (a&&b) h:=by
 cases a<;>rfl
theorem eqN(n:Nat):Ba (Int.ofNat n) (Int.ofNat 0)=decide (n=0):=by
 rw[Fi,Bool.eq_iff_iff,beq_iff_eq,decide_eq_true_eq]
 exact⟨fun h=>Int.ofNat.inj h,fun h=>by rw[h]⟩
def Gf(s set:List UInt8):List UInt8:=(s.reverse.dropWhile (·∈set)).reverse
theorem Aki(s set:List UInt8)(x:UInt8):Gf (s++[x]) set=if x∈set then Gf s set else s++[x]:=by
 unfold Gf
 rw[List.reverse_append,List.reverse_singleton,List.singleton_append,List.dropWhile_cons]
 by_cases h:x∈set<;>simp[h]
theorem Av5 {h : H} {b : P} {t : Tm} {z : Nat} {e : TypeId} {w : Bool} {set : List UInt8} (ha : h.at b = .row t 256 z e w) (ht : ∀ x : UInt8, Bh t x.toNat = .bool (decide (x ∈ set))) {k : KV} :
    ∀ (n : Nat) (s : List UInt8), s.length ≤ 4611686018427387904 → s.length < n → k (S (Gf s set)) h → (Ahu W1 k n).a1 s.length (enc s) (.ptr b 0) h
  | 0, _, _, hn, _ => absurd hn (Nat.not_lt_zero _)
  | n + 1, s, hl, hn, hk => by
    refine A4z ?_
    unfold Ad8
    rcases List.eq_nil_or_concat s with rfl | ⟨r, x, rfl⟩
    · exact Bo rfl hk
    · rw [List.concat_eq_append] at hl hn hk ⊢
      have hlen : (r ++ [x]).length = r.length + 1 := by simp
      refine Cj (by rw [Fl]; simp) ?_
      rw [Uj]
      have w1 : wrap .i64 (Int.ofNat (r ++ [x]).length - Int.ofNat 1) = Int.ofNat r.length := by
        rw [hlen]
        have : Int.ofNat (r.length + 1) - Int.ofNat 1 = Int.ofNat r.length := by show ((r.length + 1 : Nat) : Int) - ((1 : Nat) : Int) = (r.length : Int); omega
        rw [this, wrap64 (by show _ ≤ ((r.length : Nat) : Int); omega) (by show ((r.length : Nat) : Int) ≤ _; omega)]
      rw [As, w1, Ap]
      refine Cn (by rw [hlen]; omega) ?_
      have hx : (r ++ [x])[r.length]'(by rw [hlen]; omega) = x := by simp
      rw [hx]
      refine Bga ha (ht x) ?_
      rw [Ce, Br]
      rw [Aki] at hk
      refine Az (fun e => ?_) (fun e => ?_)
      · have e : ¬ x ∈ set := by simpa using e
        rw [if_neg e] at hk; exact hk
      · have e : x ∈ set := by simpa using e
        rw [if_pos e] at hk
        rw [As, Ap]
        refine Alm (by rw [hlen]; omega) ?_
        have ht' : (r ++ [x]).take r.length = r := by simp
        rw [ht']
        exact Av5 ha ht n r (by omega) (by omega) hk
theorem Rt{a b:Bool}{h:H}{Q:(Bool→H→Prop)→Prop}{k:Bool→H→Prop}(hq:∀k',k' b h→Q k')(hk:k (a||b) h):An (fun k1=>gate false a (Q k1) (k1 true h)) k:=by
 cases a with
 |true=>exact hk
 |false=>exact hq k hk
theorem Lb{a b:Bool}{h:H}{Q:(Bool→H→Prop)→Prop}{k:Bool→H→Prop}(hq:∀k',k' b h→Q k')(hk:k (a&&b) h):An (fun k1=>gate true a (Q k1) (k1 false h)) k:=by
 cases a with
 |true=>exact hq k hk
 |false=>exact hk
theorem Jd{α:Type}{x:α}{K:α→Prop}:oV (some x) K=K x:=rfl
theorem Aqu(b:Bool):Ajr b b=true:=by cases b<;>rfl
theorem Cg{m:Nat}(h:m≤9223372036854775807):wrap .i64 (Int.ofNat m)=Int.ofNat m:=wrap64 (by show _≤((m:Nat):Int);omega) (by show((m:Nat):Int)≤_;omega)
end Go.Den
