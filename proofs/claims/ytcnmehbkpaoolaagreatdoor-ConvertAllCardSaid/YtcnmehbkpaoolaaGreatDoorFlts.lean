/-
 Proof.
-/
import Derived.Test.YtcnmehbkpaoolaaGreatDoorRunE
import Derived.Test.YtcnmehbkpaoolaaGreatDoorDenQ
import Derived.KernelRfl
noncomputable section
namespace Go.Den
open Go.RowKit
set_option maxRecDepth 100000
def Bbf:List (Ob FT):=List.replicate 12 .dead
def A0k:List Loc:=[⟨0,0,0⟩,⟨1,0,0⟩,⟨2,0,0⟩,⟨3,0,0⟩,⟨4,0,0⟩,⟨5,0,0⟩,⟨6,0,0⟩,⟨7,0,0⟩,⟨8,0,0⟩,⟨9,0,0⟩,⟨10,0,0⟩,⟨11,0,0⟩]
theorem Bis(w:World):Sim (mu0 A0k) (Ky Bbf) w:=Ze rfl rfl fun i o c h _=>by
 have:o=.dead:=by
  have:=List.mem_of_getElem? h
  exact List.eq_of_mem_replicate this
 subst this;trivial
theorem A48:Gm (mu0 A0k) G:=Tb fun g hg=>by
 have hg:g<12:=hg
 refine⟨⟨g,0,0⟩,?_,rfl,rfl⟩
 match g,hg with
 |0,_|1,_|2,_|3,_|4,_|5,_|6,_|7,_|8,_|9,_|10,_|11,_=>rfl
abbrev h0:H:=Ky Bbf
abbrev PP:Program:=Proofs.Tryz.prog
abbrev W1:CF:=SW PP G
theorem use{F:FuncId}{args:List AV}{r:AV}(hp:Pure PP G h0 F args r)(ha:Ny args=true)(hr:plain r=true){h:H}{k:KV}(hk:k r h):W1 (.func F) args h k:=As8 Bis A48 rfl hp ha hr hk
theorem Di{F:FuncId}{args:List AV}{r:AV}(hp:Pure PP G h0 F args r){h:H}{k:KV}(hk:k r h)(ha:Ny args=true:=by rfl)(hr:plain r=true:=by rfl):W1 (.func F) args h k:=use hp ha hr hk
theorem Bf8(s t:List UInt8):Pure PP G h0 171 [S s,S t] (.bool (decide (s.take t.length=t))):=by
 refine A8s (n:=1) Bs (Bjp ?_)
 unfold Aeb
 refine Dp (fun e=>?_) (fun e=>?_)
 · rw[Jh,decide_eq_true_eq] at e
   have e:t.length≤s.length:=Int.ofNat_le.1 e
   refine Wl e ?_
   rw[Cq]
 · rw[Jh,decide_eq_false_iff_not] at e
   have e:¬t.length≤s.length:=fun h=>e (Int.ofNat_le.2 h)
   have:¬s.take t.length=t:=fun h=>by
    have:=congrArg List.length h
    simp at this;omega
   show AV.bool false=_
   rw[decide_eq_false this]
theorem Azs(s t:List UInt8):Pure PP G h0 115 [S s,S t] (.bool (decide (s.take t.length=t))):=by
 refine A86 (n:=1) Bs (Bj4 ?_)
 exact Di (Bf8 s t) (rfl:AV.bool _=AV.bool _)
def hx1:List UInt8:=[48,120]
def hx2:List UInt8:=[48,88]
def Ev(s:List UInt8):Bool:=decide (s.take 2=hx1)||decide (s.take 2=hx2)
def Ek:List UInt8:=[48,49,50,51,52,53,54,55,56,57]
def Pn:List UInt8:=[48,49,50,51,52,53,54,55]
def Ec:List UInt8:=[48,49,50,51,52,53,54,55,56,57,97,98,99,100,101,102,65,66,67,68,69,70]
def Gg:List UInt8:=[117,85,108,76]
def tbl(s:List UInt8):List AV:=(List.range 256).map fun i=>.bool (s.any fun b=>b.toNat==i)
theorem Xy(s:List UInt8):(tbl s).length=256:=by unfold tbl;simp
theorem Al3(s:List UInt8)(x:UInt8):(tbl s).getD x.toNat .undef=.bool (decide (x∈s)):=by
 have hx:=x.toNat_lt
 unfold tbl
 rw[List.getD_eq_getElem?_getD,List.getElem?_map,List.getElem?_range (by omega)]
 simp only[Option.map_some,Option.getD_some]
 congr 1
 rw[Bool.eq_iff_iff]
 simp[UInt8.toNat_inj]
def Ui(s:List UInt8):Prop:=Pure PP G h0 168 [S s] (.tuple [.agg (tbl s),.bool true])
theorem pure_run{F:FuncId}{args:List AV}{r:AV}(h:calls 100000 100000 (.func F) args h0 (fun v _=>v=r)=(r=r)):Pure PP G h0 F args r:=
 Ab4 (Km 100000 100000) (h.mpr rfl)
theorem Ak5:Ui Ek:=pure_run (by kernel_rfl)
theorem Ati:Ui Pn:=pure_run (by kernel_rfl)
theorem Akw:Ui Ec:=pure_run (by kernel_rfl)
theorem A20:Ui Gg:=pure_run (by kernel_rfl)
theorem a69:Aa5 env 264=some (256,4):=by kernel_rfl
theorem t4':(env.ty 4).map (·.size)=some 1:=by kernel_rfl
theorem t4:∃ei,env.ty 4=some ei∧ei.size=1:=by
 have h:=t4'
 cases e:env.ty 4 with
 |none=>rw[e] at h;cases h
 |some ei=>rw[e] at h;exact⟨ei,rfl,Option.some.inj h⟩
theorem Bf4{h:H}{b:P}{t:Tm}{z:Nat}{e:TypeId}{w:Bool}(ha:h.at b=.row t 256 z e w){x:UInt8}{β:Bool}(hx:Bn t x.toNat=.bool β){k:KV}(hk:k (.bool β) h):
 W1 (.func 215) [.ptr b 0,.int .u8 (Int.ofNat x.toNat)] h k:=by
 refine A8n (n:=1) Bs (Bjk ?_)
 unfold Ad0
 have e1:Cp (.ptr b 0) h=some (.ptr b 0,h):=rfl
 rw[e1,Ad]
 have e2:Cy env 264 (.ptr b 0) (Bl (.int .u8 (Int.ofNat x.toNat))) h=some (.ptr b x.toNat,h):=by
  show Kl env 264 b 0 x.toNat h=_
  unfold Kl
  rw[a69]
  obtain⟨ei,h1,h2⟩:=t4
  have hb:Nat.ble (Nat.add x.toNat 1) 256=true:=Nat.ble_eq_true_of_le (by have:=x.toNat_lt;show x.toNat+1≤256;omega)
  show(Bool.rec (motive:=fun _=>Option (AV×H)) none (Option.rec (motive:=fun _=>Option (AV×H)) none (fun ei=>some (.ptr b (Nat.add 0 (Nat.mul x.toNat ei.size)),h)) (env.ty 4)) (Nat.ble (Nat.add x.toNat 1) 256))=_
  rw[hb,h1]
  show some (AV.ptr b (0+x.toNat*ei.size),h)=_
  rw[h2,Nat.zero_add,Nat.mul_one]
 rw[e2,Ad]
 refine Dg ha x.toNat_lt ?_
 rw[hx,Bt];exact hk
theorem Bf3 {h : H} {b : P} {t : Tm} {z : Nat} {e : TypeId} {w : Bool} {set : List UInt8} (ha : h.at b = .row t 256 z e w) (ht : ∀ x : UInt8, Bn t x.toNat = .bool (decide (x ∈ set))) {k : KV} :
    ∀ (s : List UInt8) (n : Nat), s.length < n → k (S (s.dropWhile (· ∈ set))) h → (Ahf W1 k n).a1 s.length (enc s) (.ptr b 0) h
  | _, 0, hn, _ => absurd hn (Nat.not_lt_zero _)
  | [], n + 1, _, hk => by
    refine At2 ?_
    unfold Zi
    exact Cm rfl hk
  | x :: s, n + 1, hn, hk => by
    refine At2 ?_
    unfold Zi
    refine Df (by rw [Gf]; simp) ?_
    refine Bi (Nat.zero_lt_succ _) ?_
    refine Bf4 ha (ht x) ?_
    rw [Bt]
    rw [Bj]
    refine Ap (fun e => ?_) (fun e => ?_)
    · have e : ¬ x ∈ set := by simpa using e
      have : (x :: s).dropWhile (· ∈ set) = x :: s := by simp [e]
      rw [this] at hk; exact hk
    · have e : x ∈ set := by simpa using e
      have : (x :: s).dropWhile (· ∈ set) = s.dropWhile (· ∈ set) := by simp [e]
      rw [this] at hk
      exact Fl (s := x :: s) (Nat.le_add_left 1 _) (Bf3 ha ht s n (Nat.lt_of_succ_lt_succ hn) hk)
theorem Tv{s t:List UInt8}(h:s≠t):Bg s.length (enc s) t.length (enc t)=false:=by rw[Cq,decide_eq_false h]
theorem Bk3{set:List UInt8}(hs:Ui set)(h2:2≤set.length)(s:List UInt8):Pure PP G h0 172 [S s,S set] (S (s.dropWhile (·∈set))):=by
 refine A8r (n:=1) Bs (Bjo ?_)
 unfold Aea
 have e0:Bg set.length (enc set) 0 0=false:=Tv (t:=[]) (fun h=>by subst h;simp at h2)
 rw[e0]
 have e1:Bg s.length (enc s) 0 0=decide (s=[]):=Cq (t:=[])
 rw[e1]
 refine Jc ?_
 refine Ap (fun e=>?_) (fun e=>?_)
 · have e:s=[]:=by simpa using e
   subst e;rfl
 · have e:¬s=[]:=by simpa using e
   refine Dp (fun e=>?_) (fun _=>?_)
   · rw[Fx,beq_iff_eq] at e
     have:set.length=1:=by have:=Int.ofNat.inj e;exact this
     omega
   · refine Cm rfl ?_
     refine Di hs ?_
     rw[Dn,Du,Bt]
     refine Dt ?_
     refine Ahy (zs:=List.replicate 256 (.bool false)) (by simp) (Xy _) (by omega) ?_
     intro h' ha
     refine Df rfl ?_
     refine A8m (n:=s.length+2) Bs (Bjj ?_)
     unfold Adz
     refine Bf3 (set:=set) ha (fun x=>?_) s _ (by omega) ?_
     · rw[Av,if_pos ⟨Nat.zero_le _,by rw[Xy];have:=x.toNat_lt;omega⟩,Nat.sub_zero]
       exact Al3 set x
     · exact Bp.mpr rfl
theorem wrap64{n:Int}(h1: -9223372036854775808≤n)(h2:n≤9223372036854775807):wrap .i64 n=n:=by
 rw[Ft]
 simp[IntKind.wrap,IntKind.bits,IntKind.signed]
 omega
def Ay(s set:List UInt8):Nat:=(s.takeWhile (·∈set)).length
theorem Ge(s set:List UInt8):Ay s set≤s.length:=by
 unfold Ay
 exact(List.takeWhile_sublist _).length_le
theorem Avb(s set:List UInt8):s.length=Ay s set+(s.dropWhile (·∈set)).length:=by
 have:=congrArg List.length (List.takeWhile_append_dropWhile (p:=(·∈set)) (l:=s))
 rw[List.length_append] at this
 exact this.symm
theorem Aq4{set:List UInt8}(hs:Ui set)(h2:2≤set.length)(s:List UInt8)(hl:s.length≤4611686018427387904):Pure PP G h0 116 [S s,S set] (.int .i64 (Int.ofNat (Ay s set))):=by
 refine A85 (n:=1) Bs (Bj3 ?_)
 unfold Aew
 refine Di (Bk3 hs h2 s) ?_
 rw[Bp,Al,Og]
 have e:=Avb s set
 have:Int.ofNat s.length-Int.ofNat (s.dropWhile (·∈set)).length=Int.ofNat (Ay s set):=by
  show(s.length:Int)-((s.dropWhile (·∈set)).length:Int)=(Ay s set:Int)
  omega
 rw[this]
 have hr:=Ge s set
 rw[wrap64 (by show _≤((Ay s set:Nat):Int);omega) (by show((Ay s set:Nat):Int)≤_;omega)]
def Xq(L:List UInt8)(x:UInt8):Int:=Oj x.toNat L.length (enc L) 0
theorem Zp(L:List UInt8)(x:UInt8):(Xq L x<0)↔x∉L:=by
 unfold Xq
 rw[Sz (by have:=x.toNat_lt;omega)]
 have ex:x.toNat.toUInt8=x:=by rw[Nat.toUInt8,UInt8.ofNat_toNat]
 rw[ex]
 cases h:L.findIdx? (·==x) with
 |none=>
  rw[List.findIdx?_eq_none_iff] at h
  constructor
  · intro _ hm;have:=h x hm;simp at this
  · intro _;show(-1:Int)<0;omega
 |some j=>
  have hj:=List.findIdx?_eq_some_iff_getElem.1 h
  obtain⟨hlt,he,_⟩:=hj
  constructor
  · intro hn;exfalso
    have hn:((0+j:Nat):Int)<0:=hn
    omega
  · intro hm;exact absurd (by rw[←(beq_iff_eq.1 he)];exact List.getElem_mem hlt) hm
theorem Bkv(L:List UInt8)(x:UInt8):Pure PP G h0 257 [S L,.int .u8 (Int.ofNat x.toNat)] (.int .i64 (Xq L x)):=by
 refine A8a ?_
 refine Df rfl ?_
 have hx:Nat.ble x.toNat 255=true:=Nat.ble_eq_true_of_le (by have:=x.toNat_lt;omega)
 have e:Ib .indexByte [S L,.int .u8 (Int.ofNat x.toNat)] h0=some (.int .i64 (Xq L x),h0):=by
  show(Bool.rec (motive:=fun _=>Option (AV×H)) none (some (.int .i64 (Oj x.toNat L.length (enc L) 0),h0)) (Nat.ble x.toNat 255))=_
  rw[hx];rfl
 rw[e,Ad]
theorem Bky(L:List UInt8)(x:UInt8):Pure PP G h0 207 [S L,.int .u8 (Int.ofNat x.toNat)] (.int .i64 (Xq L x)):=by
 refine A8p (n:=1) Bs (Bjm ?_)
 unfold Ad3
 refine Di (Bkv L x) ?_
 rw[Bu]
theorem A7s(L:List UInt8)(x:UInt8):Pure PP G h0 160 [S L,.int .u8 (Int.ofNat x.toNat)] (.int .i64 (Xq L x)):=by
 refine A8y (n:=1) Bs (Bjv ?_)
 unfold Aem
 refine Di (Bky L x) ?_
 rw[Bu]
def Hj:List UInt8→List UInt8
 |[]=>[]
 |c::r=>if c=43∨c=45 then r else c::r
def Oq(s L:List UInt8):List UInt8×Bool:=match s with
 |[]=>([],false)
 |x::r=>if x∈L then(if Ay (Hj r) Ek=0 then(x::r,false) else((Hj r).drop (Ay (Hj r) Ek),true)) else(x::r,false)
theorem Ao6{x:UInt8}{L:List UInt8}(h:x∈L)(r:List UInt8):Oq (x::r) L=(if Ay (Hj r) Ek=0 then(x::r,false) else((Hj r).drop (Ay (Hj r) Ek),true)):=if_pos h
theorem Aao{x:UInt8}{L:List UInt8}(h:x∉L)(r:List UInt8):Oq (x::r) L=(x::r,false):=if_neg h
theorem Arr(r:List UInt8):(Hj r).length≤r.length:=by
 cases r with
 |nil=>exact Nat.le_refl _
 |cons c r=>
  show(if c=43∨c=45 then r else c::r).length≤_
  split
  · exact Nat.le_succ _
  · exact Nat.le_refl _
theorem toNat_eq(c:UInt8)(n:Nat)(hn:n<256):Ba (Int.ofNat c.toNat) (Int.ofNat n)=decide (c=UInt8.ofNat n):=by
 rw[Fx,Bool.eq_iff_iff,beq_iff_eq,decide_eq_true_eq]
 constructor
 · intro h
   have h:c.toNat=n:=Int.ofNat.inj h
   subst h;simp
 · intro h;subst h
   show Int.ofNat _=Int.ofNat _
   congr 1
   simp;omega
theorem Fb(s:List UInt8):Bg s.length (enc s) 0 0=decide (s=[]):=Cq (t:=[])
theorem Ll(c:UInt8)(r:List UInt8):Bg (c::r).length (enc (c::r)) 0 0=false:=Tv (t:=[]) (by simp)
theorem Atz{a b:Bool}{h:H}{k:Bool→H→Prop}:Ao (fun k1=>gate false a (k1 b h) (k1 true h)) k=k (a||b) h:=by
 cases a<;>rfl
theorem Aql{a b:Bool}{h:H}{k:Bool→H→Prop}:Ao (fun k1=>gate true a (k1 b h) (k1 false h)) k=k (a&&b) h:=by
 cases a<;>rfl
theorem eqN(n:Nat):Ba (Int.ofNat n) (Int.ofNat 0)=decide (n=0):=by
 rw[Fx,Bool.eq_iff_iff,beq_iff_eq,decide_eq_true_eq]
 exact⟨fun h=>Int.ofNat.inj h,fun h=>by rw[h]⟩
def Ff(s set:List UInt8):List UInt8:=(s.reverse.dropWhile (·∈set)).reverse
theorem Aj8(s set:List UInt8)(x:UInt8):Ff (s++[x]) set=if x∈set then Ff s set else s++[x]:=by
 unfold Ff
 rw[List.reverse_append,List.reverse_singleton,List.singleton_append,List.dropWhile_cons]
 by_cases h:x∈set<;>simp[h]
theorem Av5 {h : H} {b : P} {t : Tm} {z : Nat} {e : TypeId} {w : Bool} {set : List UInt8} (ha : h.at b = .row t 256 z e w) (ht : ∀ x : UInt8, Bn t x.toNat = .bool (decide (x ∈ set))) {k : KV} :
    ∀ (n : Nat) (s : List UInt8), s.length ≤ 4611686018427387904 → s.length < n → k (S (Ff s set)) h → (Ahg W1 k n).a1 s.length (enc s) (.ptr b 0) h
  | 0, _, _, hn, _ => absurd hn (Nat.not_lt_zero _)
  | n + 1, s, hl, hn, hk => by
    refine A4r ?_
    unfold Aec
    rcases List.eq_nil_or_concat s with rfl | ⟨r, x, rfl⟩
    · exact Cm rfl hk
    · rw [List.concat_eq_append] at hl hn hk ⊢
      have hlen : (r ++ [x]).length = r.length + 1 := by simp
      refine Df (by rw [Gf]; simp) ?_
      rw [Og]
      have w1 : wrap .i64 (Int.ofNat (r ++ [x]).length - Int.ofNat 1) = Int.ofNat r.length := by
        rw [hlen]
        have : Int.ofNat (r.length + 1) - Int.ofNat 1 = Int.ofNat r.length := by show ((r.length + 1 : Nat) : Int) - ((1 : Nat) : Int) = (r.length : Int); omega
        rw [this, wrap64 (by show _ ≤ ((r.length : Nat) : Int); omega) (by show ((r.length : Nat) : Int) ≤ _; omega)]
      rw [Al, w1, Aq]
      refine Bi (by rw [hlen]; omega) ?_
      have hx : (r ++ [x])[r.length]'(by rw [hlen]; omega) = x := by simp
      rw [hx]
      refine Bf4 ha (ht x) ?_
      rw [Bt, Bj]
      rw [Aj8] at hk
      refine Ap (fun e => ?_) (fun e => ?_)
      · have e : ¬ x ∈ set := by simpa using e
        rw [if_neg e] at hk; exact hk
      · have e : x ∈ set := by simpa using e
        rw [if_pos e] at hk
        rw [Al, Aq]
        refine Wl (by rw [hlen]; omega) ?_
        have ht' : (r ++ [x]).take r.length = r := by simp
        rw [ht']
        exact Av5 ha ht n r (by omega) (by omega) hk
theorem Ma{a b:Bool}{h:H}{Q:(Bool→H→Prop)→Prop}{k:Bool→H→Prop}(hq:∀k',k' b h→Q k')(hk:k (a||b) h):Ao (fun k1=>gate false a (Q k1) (k1 true h)) k:=by
 cases a with
 |true=>exact hk
 |false=>exact hq k hk
theorem Vu{a b:Bool}{h:H}{Q:(Bool→H→Prop)→Prop}{k:Bool→H→Prop}(hq:∀k',k' b h→Q k')(hk:k (a&&b) h):Ao (fun k1=>gate true a (Q k1) (k1 false h)) k:=by
 cases a with
 |true=>exact hq k hk
 |false=>exact hk
theorem Bki(x y:Bool):Jk env .eql 4 (.bool x) (.bool y)=some (.bool (Aji x y)):=by kernel_rfl
theorem Ih{α:Type}{x:α}{K:α→Prop}:oV (some x) K=K x:=rfl
theorem Ac7(b:Bool):Aji b b=true:=by cases b<;>rfl
theorem Co{m:Nat}(h:m≤9223372036854775807):wrap .i64 (Int.ofNat m)=Int.ofNat m:=wrap64 (by show _≤((m:Nat):Int);omega) (by show((m:Nat):Int)≤_;omega)
end Go.Den
