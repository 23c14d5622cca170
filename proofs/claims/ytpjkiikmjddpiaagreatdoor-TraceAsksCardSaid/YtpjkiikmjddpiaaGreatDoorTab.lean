/-
  A part of the proof: the table of files: what stands in a file between two places.
-/
import Derived.Test.YtpjkiikmjddpiaaGreatDoorOrd
import Derived.Test.YtpjkiikmjddpiaaGreatDoorRop
import Derived.Test.YtpjkiikmjddpiaaGreatDoorBkb
namespace Go.Den
open Go.RowKit
set_option maxRecDepth 100000
/-! ### The same value twice -/
theorem strEq_r(l c:Nat):strEq l c l c=true:=by unfold strEq;rw[Nat.beq_refl,Nat.beq_refl];rfl
theorem strEq_l{s t:List UInt8}{l c:Nat}(hl:t.length=l)(hc:enc t=c):strEq s.length (enc s) l c=decide (s=t):=by
  subst hl hc;exact strEq_enc
theorem ikEq_r(k:IntKind):ikEq k k=true:=by cases k<;>rfl
theorem ibeq_r(n:Int):ibeq n n=true:=by rw[ibeq_eq];exact beq_self_eq_true n
/-- plain: compared with itself it is the same -/
def smp(v:AV):Prop:=(∃l c,v=.str l c)∨(∃k n,v=.int k n)∨(∃b,v=.bool b)∨v=.nils∨(∃b o n z t,v=.slice b o n z t)∨v=.nilp∨∃q o,v=.ptr q o
theorem avEq_smp{n:Nat}{v:AV}(h:smp v):avEq (n+1) v v=true:=by
  rcases h with⟨l,c,rfl⟩|⟨k,m,rfl⟩|⟨b,rfl⟩|rfl|⟨b,o,m,z,t,rfl⟩|rfl|⟨q,o,rfl⟩
  · show band (Nat.beq l l) (Nat.beq c c)=true
    rw[Nat.beq_refl,Nat.beq_refl];rfl
  · show band (ikEq k k) (ibeq m m)=true
    rw[ikEq_r,ibeq_r];rfl
  · exact beqB_self b
  · rfl
  · show band (band (P.beq b b) (Nat.beq o o)) (band (band (Nat.beq m m) (Nat.beq z z)) (beqB t t))=true
    rw[P.beq_refl,Nat.beq_refl,Nat.beq_refl,Nat.beq_refl,beqB_self];rfl
  · rfl
  · show band (P.beq q q) (Nat.beq o o)=true
    rw[P.beq_refl,Nat.beq_refl];rfl
theorem eqC_smp{v:AV}{A:Prop}(h:smp v)(hA:A):eqC v v A:=by
  unfold eqC
  rw[avEq_smp h];exact hA
theorem allEq_smp{n:Nat}:∀{l:List AV},(∀v∈l,smp v)→allEq (avEq (n+1)) l l=true
  |[],_=>rfl
  |v::l,h=>by
    show band (avEq (n+1) v v) (allEq (avEq (n+1)) l l)=true
    rw[avEq_smp (h v (by simp)),allEq_smp fun w hw=>h w (List.mem_cons_of_mem _ hw)];rfl
theorem eqC_agg{l:List AV}{A:Prop}(h:∀v∈l,smp v)(hA:A):eqC (.agg l) (.agg l) A:=by
  unfold eqC
  rw[show avEq 4 (.agg l) (.agg l)=allEq (avEq 3) l l from rfl,allEq_smp h];exact hA
/-! ### Files in a map -/
def FsP(h:H):Es→List Fl→Prop
  |[],[]=>True
  |e::es,f::fs=>e.1=S f.1∧RopeP 4 h e.2.1 f.2∧(∃q,e.2.1=.ptr q 0)∧FsP h es fs
  |_,_=>False
theorem FsP.mono{h h':H}:∀{es:Es}{fs:List Fl},FsP h es fs→(∀v s,RopeP 4 h v s→RopeP 4 h' v s)→FsP h' es fs
  |[],[],_,_=>trivial
  |_::_,_::_,⟨h1,h2,h3,h4⟩,hm=>⟨h1,hm _ _ h2,h3,FsP.mono h4 hm⟩
  |[],_::_,h,_=>h.elim
  |_::_,[],h,_=>h.elim
theorem findP_c{p s:List UInt8}{v:AV}{b:Nat}{es:Es}{i:Nat}:findP (S p) ((S s,v,b)::es) i=(Bool.rec (findP (S p) es (Nat.add i 1)) (some (some (v,b,i))) (strEq p.length (enc p) s.length (enc s)):Option Hit):=rfl
theorem FsP.look{h:H}{p:List UInt8}:∀{es:Es}{fs:List Fl}(i:Nat),FsP h es fs→(textOf fs p=none∧findP (S p) es i=some none)∨∃x v b j,textOf fs p=some x∧findP (S p) es i=some (some (v,b,j))∧RopeP 4 h v x∧∃q,v=.ptr q 0
  |[],[],_,_=>.inl ⟨rfl,rfl⟩
  |[],_::_,_,h=>h.elim
  |_::_,[],_,h=>h.elim
  |(k,v,b)::es,f::fs,i,⟨h1,h2,h3,h4⟩=>by
    have h1:k=S f.1:=h1
    subst h1
    rw[findP_c,strEq_enc]
    by_cases e:p=f.1
    · rw[decide_eq_true e]
      exact .inr ⟨f.2,v,b,i,by rw[textOf,if_pos e.symm],rfl,h2,h3⟩
    · rw[decide_eq_false e,textOf,if_neg fun q=>e q.symm]
      exact FsP.look (Nat.add i 1) h4
structure TabP(h:H)(pT pF pV:P)(fs:List Fl):Prop where
  row:AtP h pT 0 [.nils,.map pF,.map pV]
  nT:pT.nat<h.next.nat
  nF:pF.nat<h.next.nat
  nV:pV.nat<h.next.nat
  ne:pF≠pV
  files:∃es ck,h.at pF=.map es ck∧FsP h es fs∧es.length=fs.length
  vers:∃es ck,h.at pV=.map es ck∧es.map (·.1)=fs.map fun f=>S f.1
theorem TabP.ext{h h':H}{pT pF pV:P}{fs:List Fl}(t:TabP h pT pF pV fs)(x:Exh h h'):TabP h' pT pF pV fs:=by
  obtain⟨es,ck,h1,h2,h3⟩:=t.files
  obtain⟨ev,cv,g1,g2⟩:=t.vers
  exact⟨t.row.ext x t.nT,Nat.lt_of_lt_of_le t.nT x.1,Nat.lt_of_lt_of_le t.nF x.1,Nat.lt_of_lt_of_le t.nV x.1,t.ne,⟨es,ck,by rw[x.2 _ t.nF];exact h1,h2.mono fun _ _ r=>r.ext x,h3⟩,⟨ev,cv,by rw[x.2 _ t.nV];exact g1,g2⟩⟩
/-! ### A file -/
theorem eqTb(q:P):binA env .eql 29 (.ptr q 0) .nilp=some (.bool false):=by kernel_rfl
theorem lookFT(q:P)(l c:Nat)(h:H):exLookup env 84 (.map q) (.str l c) true h=(Option.rec none (fun p=>exLook3 env 88 true (findP (.str l c) p.1 0) h) (esOf (h.at q)):Option (AV×H)):=by kernel_rfl
theorem lookFTn(h:H):exLook3 env 88 true (some none) h=some (.tuple [.nilp,.bool false],h):=by kernel_rfl
theorem TabP.get{h:H}{pT pF pV:P}{fs:List Fl}(t:TabP h pT pF pV fs)(p:List UInt8){K:KV}(hk:∀v,(textOf fs p=none∧v=.nilp)∨(∃x,textOf fs p=some x∧RopeP 4 h v x∧∃q,v=.ptr q 0)→K (.tuple [v,.bool (textOf fs p).isSome]) h):oK (exLookup env 84 (.map pF) (.str p.length (enc p)) true h) K:=by
  obtain⟨es,ck,h1,h2,_⟩:=t.files
  rw[lookFT,h1]
  show oK (exLook3 env 88 true (findP (S p) es 0) h) K
  rcases h2.look (p:=p) 0 with⟨e1,e2⟩|⟨x,v,b,j,e1,e2,e3,e4⟩
  · rw[e2,lookFTn,oK_some]
    have:=hk .nilp (.inl ⟨e1,rfl⟩)
    rw[e1] at this;exact this
  · rw[e2]
    show oK (some (.tuple [v,.bool true],h)) K
    rw[oK_some]
    have:=hk v (.inr ⟨x,e1,e3,e4⟩)
    rw[e1] at this;exact this
theorem c40{h:H}{pT pF pV:P}{fs:List Fl}(t:TabP h pT pF pV fs)(p:List UInt8){k:KV}(hk:∀v,(textOf fs p=none∧v=.nilp)∨(∃x,textOf fs p=some x∧RopeP 4 h v x∧∃q,v=.ptr q 0)→k (.tuple [v,.bool (textOf fs p).isSome]) h):W1 (.func 40) [.ptr pT 0,S p] h k:=by
  refine w40 (n:=1) sw_ok (g40 ?_)
  unfold s40_0
  rw[eqTb,oV_b,asB_b]
  refine cnd_f rfl ?_
  rw[exNil_p,oK_some,fAddr_i]
  refine t.row.ld1 (j:=1) (by show 1<3;decide) ?_
  refine t.get p fun v hv=>?_
  rw[ext_0,ext_1,asB_b]
  exact hk v hv
/-! ### What stands in a span -/
def spV(o:Option (List UInt8))(f t:Int):Option (List UInt8):=match o with
  |none=>none
  |some x=>if 0≤f∧f≤t∧t≤Int.ofNat x.length then some (bkR f t (standR x)) else none
noncomputable def spA (o:Option (List UInt8)):AV:=match o with
  |none=>.tuple [.str 0 0,.bool false]
  |some y=>.tuple [S y,.bool true]
def Sht(fs:List Fl):Prop:=∀f∈fs,f.2.length≤2048
theorem c23{h:H}{pT pF pV:P}{fs:List Fl}(tb:TabP h pT pF pV fs)(hs:Sht fs){p:List UInt8}{f t:Int}{k:KV}(hk:∀h',Exh h h'→k (spA (spV (textOf fs p) f t)) h'):W1 (.func 23) [.ptr pT 0,.agg [S p,.int .i64 f,.int .i64 t]] h k:=by
  refine w23 (n:=1) sw_ok (g23 ?_)
  unfold s23_0
  rw[asG_g]
  refine chk_i (by simp) (newK_i ?_)
  have x1:Exh h (h.new (rowOf 25 [S p,.int .i64 f,.int .i64 t])):=.new
  have ha:AtP (h.new (rowOf 25 [S p,.int .i64 f,.int .i64 t])) h.next 0 [S p,.int .i64 f,.int .i64 t]:=AtP.newRow
  have tb1:=tb.ext x1
  rw[fAddr_i]
  refine ha.ld1 (j:=0) (by show 0<3;decide) ?_
  show asS (S p) _
  rw[asS_s]
  refine c40 tb1 p fun v hv=>?_
  rw[ext_0,ext_1,asB_b]
  rcases hv with⟨e,rfl⟩|⟨x,e,hr,q,rfl⟩
  · rw[e] at hk ⊢
    refine or_i (fun q=>by cases q) fun _=>?_
    refine or_i (fun q=>by cases q) fun _=>?_
    refine or_i (fun q=>by cases q) fun _=>?_
    exact cnd_t rfl (hk _ x1)
  · rw[e] at hk ⊢
    obtain⟨g,hg,_,rfl⟩:=textOf_some e
    have hgl:=hs g hg
    have ld:∀{h':H}{j:Nat}{K:AV→Prop}(_:Exh (h.new (rowOf 25 [S p,.int .i64 f,.int .i64 t])) h')(hj:j<[S p,.int .i64 f,.int .i64 t].length)(_:K [S p,.int .i64 f,.int .i64 t][j]),Go.Den.ld1 (.ptr h.next (0+j)) h' K:=fun x hj hK=>(ha.ext x (by rw[next_new];omega)).ld1 hj hK
    refine or_q (b:=decide (f<0)) (fun k' hk'=>?_) ?_
    · rw[fAddr_i]
      refine ld .refl (j:=1) (by show 1<3;decide) ?_
      show asI .i64 (.int .i64 f) _
      rw[asI_k,iblt_eq];exact hk'
    refine or_q (b:=decide (t<f)) (fun k' hk'=>?_) ?_
    · rw[fAddr_i]
      refine ld .refl (j:=1) (by show 1<3;decide) ?_
      show asI .i64 (.int .i64 f) _
      rw[asI_k,fAddr_i]
      refine ld .refl (j:=2) (by show 2<3;decide) ?_
      show asI .i64 (.int .i64 t) _
      rw[asI_k,iblt_eq];exact hk'
    refine or_q (b:=decide (Int.ofNat g.2.length<t)) (fun k' hk'=>?_) ?_
    · rw[fAddr_i]
      refine ld .refl (j:=2) (by show 2<3;decide) ?_
      show asI .i64 (.int .i64 t) _
      rw[asI_k]
      refine c41 hr ?_
      rw[asI_k]
      refine ld .refl (j:=2) (by show 2<3;decide) ?_
      show asI .i64 (.int .i64 t) _
      rw[asI_k]
      refine eqC_smp (.inr (.inl ⟨_,_,rfl⟩)) ?_
      rw[iblt_eq];exact hk'
    refine cnd_i (fun q=>?_) (fun q=>?_)
    · have:spV (some g.2) f t=none:=by
        unfold spV
        refine if_neg fun w=>?_
        simp only[Bool.or_eq_true,decide_eq_true_eq] at q
        rcases q with((q|q)|q)|q
        · cases q
        · omega
        · omega
        · omega
      rw[this] at hk
      exact hk _ x1
    · simp only[Bool.or_eq_false_iff,decide_eq_false_iff_not] at q
      have:spV (some g.2) f t=some (bkR f t (standR g.2)):=if_pos ⟨by omega,by omega,by omega⟩
      rw[this] at hk
      rw[fAddr_i]
      refine ld .refl (j:=1) (by show 1<3;decide) ?_
      show asI .i64 (.int .i64 f) _
      rw[asI_k,fAddr_i]
      refine ld .refl (j:=2) (by show 2<3;decide) ?_
      show asI .i64 (.int .i64 t) _
      rw[asI_k]
      refine c43 hr (by omega) fun h2 x2=>?_
      rw[asS_s]
      refine ld x2 (j:=1) (by show 1<3;decide) ?_
      show asI .i64 (.int .i64 f) _
      rw[asI_k]
      refine eqC_smp (.inr (.inl ⟨_,_,rfl⟩)) ?_
      refine ld x2 (j:=2) (by show 2<3;decide) ?_
      show asI .i64 (.int .i64 t) _
      rw[asI_k]
      refine eqC_smp (.inr (.inl ⟨_,_,rfl⟩)) ?_
      refine c42 (by omega) fun h3 x3=>?_
      rw[asS_s]
      exact hk h3 ((x1.trans x2).trans x3)
end Go.Den
