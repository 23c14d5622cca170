/-
  A part of the proof: PF1, PF2, PF3.
-/
import Derived.Test.YtpjkiikmjddpiaaGreatDoorRunE
import Derived.Test.YtpjkiikmjddpiaaGreatDoorDenQ
import Derived.KernelRfl
namespace Go.Den
open Go.RowKit
set_option maxRecDepth 100000
noncomputable def obs0:List (Ob FT):=List.replicate 9 .dead
def locs0:List Loc:=[⟨0,0,0⟩,⟨1,0,0⟩,⟨2,0,0⟩,⟨3,0,0⟩,⟨4,0,0⟩,⟨5,0,0⟩,⟨6,0,0⟩,⟨7,0,0⟩,⟨8,0,0⟩]
theorem sim0(w:World):Sim (mu0 locs0) (initH obs0) w:=sim_init rfl rfl fun i o c h _=>by
  have:o=.dead:=by
    have:=List.mem_of_getElem? h
    exact List.eq_of_mem_replicate this
  subst this;trivial
theorem globs0:Globs (mu0 locs0) G:=globs_init fun g hg=>by
  have hg:g<9:=hg
  refine⟨⟨g,0,0⟩,?_,rfl,rfl⟩
  match g,hg with
  |0,_|1,_|2,_|3,_|4,_|5,_|6,_|7,_|8,_=>rfl
noncomputable abbrev h0:H:=initH obs0
noncomputable abbrev PP:Program:=Proofs.Tryz.prog
noncomputable abbrev W1:Caller Prop FT:=SW PP G
theorem use{F:FuncId}{args:List AV}{r:AV}(hp:Pure PP G h0 F args r)(ha:plains args=true)(hr:plain r=true){h:H}{k:KV}(hk:k r h):W1 (.func F) args h k:=pure_use sim0 globs0 rfl hp ha hr hk
theorem use2{F:FuncId}{args:List AV}{r:AV}(hp:Pure PP G h0 F args r){h:H}{k:KV}(hk:k r h)(ha:plains args=true:=by rfl)(hr:plain r=true:=by rfl):W1 (.func F) args h k:=use hp ha hr hk

theorem c154(s t:List UInt8):Pure PP G h0 154 [S s,S t] (.bool (decide (s.take t.length=t))):=by
  refine w154 (n:=1) sw_ok (g154 ?_)
  unfold s154_0
  refine and_i (fun e=>?_) (fun e=>?_)
  · rw[ible_eq,decide_eq_true_eq] at e
    have e:t.length≤s.length:=Int.ofNat_le.1 e
    refine cutS_t e ?_
    rw[strEq_enc]
  · rw[ible_eq,decide_eq_false_iff_not] at e
    have e:¬t.length≤s.length:=fun h=>e (Int.ofNat_le.2 h)
    have:¬s.take t.length=t:=fun h=>by
      have:=congrArg List.length h
      simp at this;omega
    show AV.bool false=_
    rw[decide_eq_false this]
theorem c110(s t:List UInt8):Pure PP G h0 110 [S s,S t] (.bool (decide (s.take t.length=t))):=by
  refine w110 (n:=1) sw_ok (g110 ?_)
  exact use2 (c154 s t) (rfl:AV.bool _=AV.bool _)
/-- "0x", "0X" -/
def hx1:List UInt8:=[48,120]
def hx2:List UInt8:=[48,88]
def hexedL(s:List UInt8):Bool:=decide (s.take 2=hx1)||decide (s.take 2=hx2)
end Go.Den
namespace Go.Den
open Go.RowKit
set_option maxRecDepth 100000
def decL:List UInt8:=[48,49,50,51,52,53,54,55,56,57]
def octL:List UInt8:=[48,49,50,51,52,53,54,55]
def hexL:List UInt8:=[48,49,50,51,52,53,54,55,56,57,97,98,99,100,101,102,65,66,67,68,69,70]
def sufL:List UInt8:=[117,85,108,76]
/-- which bytes are in a set -/
noncomputable def tbl (s:List UInt8):List AV:=(List.range 256).map fun i=>.bool (s.any fun b=>b.toNat==i)
theorem tbl_len(s:List UInt8):(tbl s).length=256:=by unfold tbl;simp
theorem tbl_get(s:List UInt8)(x:UInt8):(tbl s).getD x.toNat .undef=.bool (decide (x∈s)):=by
  have hx:=x.toNat_lt
  unfold tbl
  rw[List.getD_eq_getElem?_getD,List.getElem?_map,List.getElem?_range (by omega)]
  simp only[Option.map_some,Option.getD_some]
  congr 1
  rw[Bool.eq_iff_iff]
  simp[UInt8.toNat_inj]
def okSet(s:List UInt8):Prop:=Pure PP G h0 300 [S s] (.tuple [.agg (tbl s),.bool true])
theorem pure_run{F:FuncId}{args:List AV}{r:AV}(h:calls 100000 100000 (.func F) args h0 (fun v _=>v=r)=(r=r)):Pure PP G h0 F args r:=
  sw_of (calls_ok 100000 100000) (h.mpr rfl)
theorem dec_ok:okSet decL:=pure_run (by kernel_rfl)
theorem oct_ok:okSet octL:=pure_run (by kernel_rfl)
theorem hex_ok:okSet hexL:=pure_run (by kernel_rfl)
theorem suf_ok:okSet sufL:=pure_run (by kernel_rfl)
theorem a69:arrOf env 417=some (256,4):=by kernel_rfl
theorem t4':(env.ty 4).map (·.size)=some 1:=by kernel_rfl
theorem t4:∃ei,env.ty 4=some ei∧ei.size=1:=by
  have h:=t4'
  cases e:env.ty 4 with
  |none=>rw[e] at h;cases h
  |some ei=>rw[e] at h;exact⟨ei,rfl,Option.some.inj h⟩
theorem c329{h:H}{b:P}{t:Tm}{z:Nat}{e:TypeId}{w:Bool}(ha:h.at b=.row t 256 z e w){x:UInt8}{β:Bool}(hx:tget t x.toNat=.bool β){k:KV}(hk:k (.bool β) h):
    W1 (.func 329) [.ptr b 0,.int .u8 (Int.ofNat x.toNat)] h k:=by
  refine w329 (n:=1) sw_ok (g329 ?_)
  unfold s329_0
  have e1:exNil (.ptr b 0) h=some (.ptr b 0,h):=rfl
  rw[e1,oK_some]
  have e2:exIndexAddr env 417 (.ptr b 0) (natOf (.int .u8 (Int.ofNat x.toNat))) h=some (.ptr b x.toNat,h):=by
    show exIdxArr env 417 b 0 x.toNat h=_
    unfold exIdxArr
    rw[a69]
    obtain⟨ei,h1,h2⟩:=t4
    have hb:Nat.ble (Nat.add x.toNat 1) 256=true:=Nat.ble_eq_true_of_le (by have:=x.toNat_lt;show x.toNat+1≤256;omega)
    show(Bool.rec (motive:=fun _=>Option (AV×H)) none (Option.rec (motive:=fun _=>Option (AV×H)) none (fun ei=>some (.ptr b (Nat.add 0 (Nat.mul x.toNat ei.size)),h)) (env.ty 4)) (Nat.ble (Nat.add x.toNat 1) 256))=_
    rw[hb,h1]
    show some (AV.ptr b (0+x.toNat*ei.size),h)=_
    rw[h2,Nat.zero_add,Nat.mul_one]
  rw[e2,oK_some]
  refine ld1_i ha x.toNat_lt ?_
  rw[hx,asB_b];exact hk
theorem c301 {h : H} {b : P} {t : Tm} {z : Nat} {e : TypeId} {w : Bool} {set : List UInt8} (ha : h.at b = .row t 256 z e w) (ht : ∀ x : UInt8, tget t x.toNat = .bool (decide (x ∈ set))) {k : KV} :
    ∀ (s : List UInt8) (n : Nat), s.length < n → k (S (s.dropWhile (· ∈ set))) h → (r301 W1 k n).a1 s.length (enc s) (.ptr b 0) h
  | _, 0, hn, _ => absurd hn (Nat.not_lt_zero _)
  | [], n + 1, _, hk => by
    refine j301_1 ?_
    unfold s301_1
    exact cnd_f rfl hk
  | x :: s, n + 1, hn, hk => by
    refine j301_1 ?_
    unfold s301_1
    refine cnd_t (by rw [iblt_eq]; simp) ?_
    refine idxS_i (Nat.zero_lt_succ _) ?_
    refine c329 ha (ht x) ?_
    rw [asB_b]
    rw [bnot_eq]
    refine cnd_i (fun e => ?_) (fun e => ?_)
    · have e : ¬ x ∈ set := by simpa using e
      have : (x :: s).dropWhile (· ∈ set) = x :: s := by simp [e]
      rw [this] at hk; exact hk
    · have e : x ∈ set := by simpa using e
      have : (x :: s).dropWhile (· ∈ set) = s.dropWhile (· ∈ set) := by simp [e]
      rw [this] at hk
      exact cutS_d (s := x :: s) (Nat.le_add_left 1 _) (c301 ha ht s n (Nat.lt_of_succ_lt_succ hn) hk)
theorem strEq_ne{s t:List UInt8}(h:s≠t):strEq s.length (enc s) t.length (enc t)=false:=by rw[strEq_enc,decide_eq_false h]
theorem c337{set:List UInt8}(hs:okSet set)(h2:2≤set.length)(s:List UInt8):Pure PP G h0 337 [S s,S set] (S (s.dropWhile (·∈set))):=by
  refine w337 (n:=1) sw_ok (g337 ?_)
  unfold s337_0
  have e0:strEq set.length (enc set) 0 0=false:=strEq_ne (t:=[]) (fun h=>by subst h;simp at h2)
  rw[e0]
  have e1:strEq s.length (enc s) 0 0=decide (s=[]):=strEq_enc (t:=[])
  rw[e1]
  refine or_b ?_
  refine cnd_i (fun e=>?_) (fun e=>?_)
  · have e:s=[]:=by simpa using e
    subst e;rfl
  · have e:¬s=[]:=by simpa using e
    refine and_i (fun e=>?_) (fun _=>?_)
    · rw[ibeq_eq,beq_iff_eq] at e
      have:set.length=1:=by have:=Int.ofNat.inj e;exact this
      omega
    · refine cnd_f rfl ?_
      refine use2 hs ?_
      rw[ext_0,ext_1,asB_b]
      refine newK_i ?_
      refine new_fill (zs:=List.replicate 256 (.bool false)) (by simp) (tbl_len _) (by omega) ?_
      intro h' ha
      refine cnd_t rfl ?_
      refine w301 (n:=s.length+2) sw_ok (g301 ?_)
      unfold s301_0
      refine c301 (set:=set) ha (fun x=>?_) s _ (by omega) ?_
      · rw[tget_tlist,if_pos ⟨Nat.zero_le _,by rw[tbl_len];have:=x.toNat_lt;omega⟩,Nat.sub_zero]
        exact tbl_get set x
      · exact asS_s.mpr rfl
end Go.Den
namespace Go.Den
open Go.RowKit
set_option maxRecDepth 100000
theorem wrap64{n:Int}(h1: -9223372036854775808≤n)(h2:n≤9223372036854775807):wrap .i64 n=n:=by
  rw[wrap_eq]
  simp[IntKind.wrap,IntKind.bits,IntKind.signed]
  omega
/-- how many bytes ahead are in a set -/
def runL(s set:List UInt8):Nat:=(s.takeWhile (·∈set)).length
theorem runL_le(s set:List UInt8):runL s set≤s.length:=by
  unfold runL
  exact(List.takeWhile_sublist _).length_le
theorem drop_len(s set:List UInt8):s.length=runL s set+(s.dropWhile (·∈set)).length:=by
  have:=congrArg List.length (List.takeWhile_append_dropWhile (p:=(·∈set)) (l:=s))
  rw[List.length_append] at this
  exact this.symm
theorem c307{set:List UInt8}(hs:okSet set)(h2:2≤set.length)(s:List UInt8)(hl:s.length≤4611686018427387904):Pure PP G h0 307 [S s,S set] (.int .i64 (Int.ofNat (runL s set))):=by
  refine w307 (n:=1) sw_ok (g307 ?_)
  unfold s307_0
  refine use2 (c337 hs h2 s) ?_
  rw[asS_s,fI_eq,isub_eq]
  have e:=drop_len s set
  have:Int.ofNat s.length-Int.ofNat (s.dropWhile (·∈set)).length=Int.ofNat (runL s set):=by
    show(s.length:Int)-((s.dropWhile (·∈set)).length:Int)=(runL s set:Int)
    omega
  rw[this]
  have hr:=runL_le s set
  rw[wrap64 (by show _≤((runL s set:Nat):Int);omega) (by show((runL s set:Nat):Int)≤_;omega)]
/-- where a byte is in a list -/
noncomputable def posL (L:List UInt8) (x:UInt8):Int:=idxByte x.toNat L.length (enc L) 0
theorem posL_neg(L:List UInt8)(x:UInt8):(posL L x<0)↔x∉L:=by
  unfold posL
  rw[idxByte_eq (by have:=x.toNat_lt;omega)]
  have ex:x.toNat.toUInt8=x:=by rw[Nat.toUInt8,UInt8.ofNat_toNat]
  rw[ex]
  cases h:L.findIdx? (·==x) with
  |none=>
    rw[List.findIdx?_eq_none_iff] at h
    constructor
    · intro _ hm;have:=h x hm;simp at this
    · intro _;show(-1:Int)<0;omega
  |some j=>
    have hj:=List.findIdx?_eq_some_iff_getElem.1 h
    obtain⟨hlt,he,_⟩:=hj
    constructor
    · intro hn;exfalso
      have hn:((0+j:Nat):Int)<0:=hn
      omega
    · intro hm;exact absurd (by rw[←(beq_iff_eq.1 he)];exact List.getElem_mem hlt) hm
theorem c228(L:List UInt8)(x:UInt8):Pure PP G h0 228 [S L,.int .u8 (Int.ofNat x.toNat)] (.int .i64 (posL L x)):=by
  refine x228 ?_
  refine cnd_t rfl ?_
  have hx:Nat.ble x.toNat 255=true:=Nat.ble_eq_true_of_le (by have:=x.toNat_lt;omega)
  have e:extA .indexByte [S L,.int .u8 (Int.ofNat x.toNat)] h0=some (.int .i64 (posL L x),h0):=by
    show(Bool.rec (motive:=fun _=>Option (AV×H)) none (some (.int .i64 (idxByte x.toNat L.length (enc L) 0),h0)) (Nat.ble x.toNat 255))=_
    rw[hx];rfl
  rw[e,oK_some]
theorem c196(L:List UInt8)(x:UInt8):Pure PP G h0 196 [S L,.int .u8 (Int.ofNat x.toNat)] (.int .i64 (posL L x)):=by
  refine w196 (n:=1) sw_ok (g196 ?_)
  unfold s196_0
  refine use2 (c228 L x) ?_
  rw[asI_k]
theorem c155(L:List UInt8)(x:UInt8):Pure PP G h0 155 [S L,.int .u8 (Int.ofNat x.toNat)] (.int .i64 (posL L x)):=by
  refine w155 (n:=1) sw_ok (g155 ?_)
  unfold s155_0
  refine use2 (c196 L x) ?_
  rw[asI_k]
/-- behind the letter of an exponent: without its sign -/
def unsL:List UInt8→List UInt8
  |[]=>[]
  |c::r=>if c=43∨c=45 then r else c::r
def expL(s L:List UInt8):List UInt8×Bool:=match s with
  |[]=>([],false)
  |x::r=>if x∈L then(if runL (unsL r) decL=0 then(x::r,false) else((unsL r).drop (runL (unsL r) decL),true)) else(x::r,false)
theorem expL_in{x:UInt8}{L:List UInt8}(h:x∈L)(r:List UInt8):expL (x::r) L=(if runL (unsL r) decL=0 then(x::r,false) else((unsL r).drop (runL (unsL r) decL),true)):=if_pos h
theorem expL_out{x:UInt8}{L:List UInt8}(h:x∉L)(r:List UInt8):expL (x::r) L=(x::r,false):=if_neg h
theorem unsL_len(r:List UInt8):(unsL r).length≤r.length:=by
  cases r with
  |nil=>exact Nat.le_refl _
  |cons c r=>
    show(if c=43∨c=45 then r else c::r).length≤_
    split
    · exact Nat.le_succ _
    · exact Nat.le_refl _
theorem toNat_eq(c:UInt8)(n:Nat)(hn:n<256):ibeq (Int.ofNat c.toNat) (Int.ofNat n)=decide (c=UInt8.ofNat n):=by
  rw[ibeq_eq,Bool.eq_iff_iff,beq_iff_eq,decide_eq_true_eq]
  constructor
  · intro h
    have h:c.toNat=n:=Int.ofNat.inj h
    subst h;simp
  · intro h;subst h
    show Int.ofNat _=Int.ofNat _
    congr 1
    simp;omega
theorem strEq_nil(s:List UInt8):strEq s.length (enc s) 0 0=decide (s=[]):=strEq_enc (t:=[])
theorem strEq_cons(c:UInt8)(r:List UInt8):strEq (c::r).length (enc (c::r)) 0 0=false:=strEq_ne (t:=[]) (by simp)
end Go.Den
