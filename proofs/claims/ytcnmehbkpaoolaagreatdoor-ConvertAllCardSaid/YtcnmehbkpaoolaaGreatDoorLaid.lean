/-
 Proof.
-/
import Derived.Test.YtcnmehbkpaoolaaGreatDoorByts
import Derived.KernelRfl
import Derived.Test.YtcnmehbkpaoolaaGreatDoorProg
import Derived.Lib.Walk
import Derived.Lib.IfaceEq
import Derived.WalkKit
import Derived.BigCall
namespace Go.Den
open Go.RowKit
set_option maxRecDepth 100000
theorem Bgd(s:List UInt8):Pure PP G h0 114 [S s] (.bool (Ev s)):=by
 refine A87 (n:=1) Bs (Bj5 ?_)
 unfold Aex
 refine Di (Azs s hx1) ?_
 rw[Bt]
 refine Jp (fun e=>Di (Azs s hx2) ?_) (fun e=>?_)
 · show AV.bool _=AV.bool _
   unfold Ev
   have e:decide (s.take 2=hx1)=false:=e
   rw[e];rfl
 · show AV.bool _=AV.bool _
   unfold Ev
   have e:decide (s.take 2=hx1)=true:=e
   rw[e];rfl
theorem Ali{s q:List UInt8}{k:KV}{n:Nat}(hl:q.length≤4611686018427387904)
 (hk:k (.tuple [if Ay q Ek=0 then S s else S (q.drop (Ay q Ek)),.bool (decide (Ay q Ek≠0))]) h0):(Abf W1 k (n+1)).a1 s.length (enc s) q.length (enc q) h0:=by
 refine A4x ?_
 unfold Aet
 refine Di (Aq4 Ak5 (by decide) q hl) ?_
 rw[Bu]
 refine Ap (fun e=>?_) (fun e=>?_)
 · rw[Fx,beq_iff_eq] at e
   have e:Ay q Ek=0:=Int.ofNat.inj e
   rw[e] at hk
   exact hk
 · have e:¬Ay q Ek=0:=fun h=>by rw[h] at e;simp[Fx] at e
   rw[Aq]
   refine Fl (Ge _ _) ?_
   rw[if_neg e,decide_eq_true (show Ay q Ek≠0 from e)] at hk
   exact hk
theorem Blb(s L:List UInt8)(hl:s.length≤4611686018427387904):Pure PP G h0 118 [S s,S L] (.tuple [S (Oq s L).1,.bool (Oq s L).2]):=by
 refine A83 (n:=2) Bs (Bj1 ?_)
 unfold Aeu
 cases s with
 |nil=>
  refine Jp (fun e=>?_) (fun _=>?_)
  · cases e
  · exact Df rfl rfl
 |cons x r=>
  have e0:Bg (x::r).length (enc (x::r)) 0 0=false:=Tv (t:=[]) (by simp)
  refine Jp (fun _=>?_) (fun e=>by rw[e0] at e;cases e)
  refine Bi (Nat.zero_lt_succ _) ?_
  refine Di (A7s L x) ?_
  rw[Bu,Gf]
  refine Ap (fun e=>?_) (fun e=>?_)
  · have e:x∉L:=(Zp L x).1 (of_decide_eq_true e)
    have:=Aao e r
    rw[this]
  · have e:x∈L:=by
     by_cases h:x∈L
     · exact h
     · exact absurd ((Zp L x).2 h) (of_decide_eq_false e)
    have he:Oq (x::r) L=(if Ay (Hj r) Ek=0 then(x::r,false) else((Hj r).drop (Ay (Hj r) Ek),true)):=Ao6 e r
    have fin:((fun v (_:H)=>v=AV.tuple [S (Oq (x::r) L).1,.bool (Oq (x::r) L).2]):KV) (.tuple [if Ay (Hj r) Ek=0 then S (x::r) else S ((Hj r).drop (Ay (Hj r) Ek)),.bool (decide (Ay (Hj r) Ek≠0))]) h0:=by
     show AV.tuple _=_
     rw[he]
     by_cases h:Ay (Hj r) Ek=0<;>simp[h]
    have hr:(Hj r).length≤4611686018427387904:=Nat.le_trans (Arr r) (by simp at hl;omega)
    refine Fl (s:=x::r) (Nat.le_add_left 1 _) ?_
    show Ao _ _
    cases r with
    |nil=>
     refine Dp (fun e=>?_) (fun _=>?_)
     · cases e
     · exact Cm rfl (Ali (q:=[]) hr fin)
    |cons c r=>
     have e1:Cn (Bg (c::r).length (enc (c::r)) 0 0)=true:=by rw[Ll];rfl
     refine Dp (fun _=>?_) (fun e=>Bool.noConfusion (e1.symm.trans e))
     refine Bi (s:=c::r) (Nat.zero_lt_succ _) ?_
     rw[toNat_eq _ 43 (by decide)]
     have key:∀b:Bool,b=decide (c=43∨c=45)→cnd b (Fm (c::r).length (enc (c::r)) 1 (c::r).length fun l c'=>(Abf W1 (fun v _=>v=.tuple [S (Oq (x::c::r) L).1,.bool (Oq (x::c::r) L).2]) 1).a1 (x::c::r).length (enc (x::c::r)) l c' h0)
      ((Abf W1 (fun v _=>v=.tuple [S (Oq (x::c::r) L).1,.bool (Oq (x::c::r) L).2]) 1).a1 (x::c::r).length (enc (x::c::r)) (c::r).length (enc (c::r)) h0):=by
      intro b hb
      refine Ap (fun e=>?_) (fun e=>?_)
      · have e:c=43∨c=45:=of_decide_eq_true (hb▸e)
        have hu:Hj (c::r)=r:=if_pos e
        rw[hu] at fin hr
        exact Fl (s:=c::r) (Nat.le_add_left 1 _) (Ali (q:=r) hr fin)
      · have e:¬(c=43∨c=45):=of_decide_eq_false (hb▸e)
        have hu:Hj (c::r)=c::r:=if_neg e
        rw[hu] at fin hr
        exact Ali (q:=c::r) hr fin
     refine Jp (fun e=>?_) (fun e=>?_)
     · refine Bi (s:=c::r) (Nat.zero_lt_succ _) ?_
       rw[toNat_eq _ 45 (by decide)]
       have e:¬c=43:=of_decide_eq_false e
       exact key _ (by simp only[List.getElem_cons_zero];congr 1;simp[e])
     · have e:c=43:=of_decide_eq_true e
       exact key _ (by simp[e])
def Mc(r:List UInt8):Bool:=decide (r=[])||decide (r=[102])||decide (r=[70])||decide (r=[108])||decide (r=[76])
def Aam(some L:List UInt8)(n:Nat)(point:Bool)(r:List UInt8):Bool:=
 if decide (n=0)||(!(Oq r L).2&&(!point||decide (some=Ec))) then false else Mc (Oq r L).1
def Ql(some L rest:List UInt8):Bool:=
 if(rest.drop (Ay rest some)).take 1=[46] then Aam some L (Ay rest some+Ay ((rest.drop (Ay rest some)).drop 1) some) true ((rest.drop (Ay rest some)).drop (1+Ay ((rest.drop (Ay rest some)).drop 1) some))
 else Aam some L (Ay rest some) false (rest.drop (Ay rest some))
def eL:List UInt8:=[101,69]
def pL:List UInt8:=[112,80]
def Lp(s:List UInt8):Bool:=if Ev s then Ql Ec pL (s.drop 2) else Ql Ek eL s
theorem Bdc(s:List UInt8):Bg s.length (enc s) 1 102=decide (s=[102]):=Cq (t:=[102])
theorem Bkj(s:List UInt8):Bg s.length (enc s) 1 70=decide (s=[70]):=Cq (t:=[70])
theorem A0v(s:List UInt8):Bg s.length (enc s) 1 108=decide (s=[108]):=Cq (t:=[108])
theorem Bdb(s:List UInt8):Bg s.length (enc s) 1 76=decide (s=[76]):=Cq (t:=[76])
theorem Bc9(s:List UInt8):Bg s.length (enc s) 22 26291342665239622251265189840170011249128153612955952=decide (s=Ec):=Cq (t:=Ec)
theorem A09{some L r:List UInt8}{n m:Nat}{point:Bool}{k:KV}(hl:r.length≤4611686018427387904)(hk:k (.bool (Aam some L n point r)) h0):
 (r65 W1 k (m+1)).a1 some.length (enc some) L.length (enc L) r.length (enc r) (Int.ofNat n) point h0:=by
 refine Bb1 ?_
 unfold Amo
 refine Di (Blb r L hl) ?_
 rw[Dn,Bp,Du,Bt]
 simp only[Atz,Aql]
 rw[eqN,Bj,Bj,Bc9,Fb,Bdc,Bkj,A0v,Bdb]
 unfold Aam at hk
 refine Ap (fun e=>?_) (fun e=>?_)
 · rw[if_pos e] at hk;exact hk
 · rw[if_neg (by rw[e];simp)] at hk;exact hk
theorem A08{some L s:List UInt8}{m:Nat}{k:KV}(hs:Ui some)(h2:2≤some.length)(hl:s.length≤2305843009213693952)(hk:k (.bool (Ql some L s)) h0):
 (r65 W1 k (m+2)).a2 some.length (enc some) L.length (enc L) s.length (enc s) h0:=by
 refine Bb0 ?_
 unfold Amn
 refine Di (Aq4 hs h2 s (by omega)) ?_
 rw[Bu,Aq]
 have hr:=Ge s some
 refine Fl hr ?_
 refine Di (Azs (s.drop (Ay s some)) [46]) ?_
 rw[Bt]
 unfold Ql at hk
 have hd:(s.drop (Ay s some)).length≤s.length:=by rw[List.length_drop];omega
 refine Ap (fun e=>?_) (fun e=>?_)
 · have e0:=e
   have e:(s.drop (Ay s some)).take 1=[46]:=of_decide_eq_true e
   rw[if_pos e] at hk
   have h1:1≤(s.drop (Ay s some)).length:=by
    have:=congrArg List.length e
    simp at this;simp;omega
   refine Fl h1 ?_
   have hd1:((s.drop (Ay s some)).drop 1).length≤s.length:=by rw[List.length_drop];omega
   refine Di (Aq4 hs h2 ((s.drop (Ay s some)).drop 1) (by omega)) ?_
   have hr1:=Ge ((s.drop (Ay s some)).drop 1) some
   rw[Bu,Al,Ii,Al,Ii]
   have w1:wrap .i64 (Int.ofNat (Ay s some)+Int.ofNat (Ay ((s.drop (Ay s some)).drop 1) some))=Int.ofNat (Ay s some+Ay ((s.drop (Ay s some)).drop 1) some):=wrap64 (by show _≤((_:Nat):Int)+((_:Nat):Int);omega) (by show((_:Nat):Int)+((_:Nat):Int)≤_;omega)
   have w2:wrap .i64 (Int.ofNat 1+Int.ofNat (Ay ((s.drop (Ay s some)).drop 1) some))=Int.ofNat (1+Ay ((s.drop (Ay s some)).drop 1) some):=wrap64 (by show _≤((1:Nat):Int)+((_:Nat):Int);omega) (by show((1:Nat):Int)+((_:Nat):Int)≤_;omega)
   rw[w1,w2,Aq]
   refine Fl (by have:=List.length_drop (i:=1) (l:=s.drop (Ay s some));omega) ?_
   refine A09 (by rw[List.length_drop];omega) (by rw[e0];exact hk)
 · have e0:=e
   have e:¬(s.drop (Ay s some)).take 1=[46]:=of_decide_eq_false e
   rw[if_neg e] at hk
   exact A09 (by omega) (by rw[e0];exact hk)
theorem c65(s:List UInt8)(hl:s.length≤2305843009213693952):Pure PP G h0 65 [S s] (.bool (Lp s)):=by
 refine w65 (n:=3) Bs (g65 ?_)
 unfold Amp
 refine Di (Bgd s) ?_
 rw[Bt]
 refine Ap (fun e=>?_) (fun e=>?_)
 · have h2:2≤s.length:=by
    unfold Ev at e
    rw[Bool.or_eq_true,decide_eq_true_eq,decide_eq_true_eq] at e
    rcases e with e|e<;>(have:=congrArg List.length e;simp[hx1,hx2] at this;omega)
   refine Fl h2 ?_
   refine A08 (some:=Ec) (L:=pL) Akw (by decide) (by rw[List.length_drop];omega) ?_
   show AV.bool _=_
   unfold Lp;rw[if_pos e]
 · refine A08 (some:=Ek) (L:=eL) Ak5 (by decide) hl ?_
   show AV.bool _=_
   unfold Lp;rw[if_neg (by rw[e];simp)]
theorem Blf{set:List UInt8}(hs:Ui set)(h2:2≤set.length)(s:List UInt8)(hl:s.length≤4611686018427387904):Pure PP G h0 112 [S s,S set] (S (Ff s set)):=by
 refine A89 (n:=1) Bs (Bj7 ?_)
 unfold Ae0
 have e0:Bg set.length (enc set) 0 0=false:=Tv (t:=[]) (fun h=>by subst h;simp at h2)
 rw[e0]
 have e1:Bg s.length (enc s) 0 0=decide (s=[]):=Cq (t:=[])
 rw[e1]
 refine Jc ?_
 refine Ap (fun e=>?_) (fun e=>?_)
 · have e:s=[]:=by simpa using e
   subst e;rfl
 · refine Dp (fun e=>?_) (fun _=>?_)
   · rw[Fx,beq_iff_eq] at e
     have:set.length=1:=by have:=Int.ofNat.inj e;exact this
     omega
   · refine Cm rfl ?_
     refine Di hs ?_
     rw[Dn,Du,Bt]
     refine Dt ?_
     refine Ahy (zs:=List.replicate 256 (.bool false)) (by simp) (Xy _) (by omega) ?_
     intro h' ha
     refine Df rfl ?_
     refine A8t (n:=s.length+2) Bs (Bjq ?_)
     unfold Aed
     refine Av5 (set:=set) ha (fun x=>?_) _ s hl (by omega) ?_
     · rw[Av,if_pos ⟨Nat.zero_le _,by rw[Xy];have:=x.toNat_lt;omega⟩,Nat.sub_zero]
       exact Al3 set x
     · exact Bp.mpr rfl
theorem b25(h:H):Bo env (env.ty 55) [] h=some (.agg [.int .u64 (Int.ofNat 0),.bool false],h):=by kernel_rfl
def A0f:AV:=.tuple [.agg [.int .u64 (Int.ofNat 0),.bool false],.bool false]
end Go.Den
namespace Go.Den
set_option maxRecDepth 100000
theorem Aha{a set:List UInt8}(r:List UInt8)(h:∀x∈a,x∈set):Ay (a++r) set=a.length+Ay r set:=by
 unfold Ay
 rw[List.takeWhile_append_of_pos (by simpa using h),List.length_append]
theorem Aod{c:UInt8}{set:List UInt8}(r:List UInt8)(h:c∉set):Ay (c::r) set=0:=by
 unfold Ay;simp[h]
def Ok(r set:List UInt8):Prop:=∀c q,r=c::q→c∉set
theorem Ayb{r set:List UInt8}(h:Ok r set):Ay r set=0:=by
 cases r with
 |nil=>rfl
 |cons c q=>exact Aod q (h c q rfl)
theorem Aky{some L a b r:List UInt8}(ha:∀x∈a,x∈some)(h46:(46:UInt8)∉some)(hb:∀x∈b,x∈some):Ql some L (a++46::(b++r))=Aam some L (a.length+(b.length+Ay r some)) true (r.drop (Ay r some)):=by
 have e:Ay (a++46::(b++r)) some=a.length:=by rw[Aha _ ha,Aod _ h46];omega
 unfold Ql
 rw[e,List.drop_left]
 rw[if_pos (by simp)]
 have e2:((46:UInt8)::(b++r)).drop 1=b++r:=rfl
 rw[e2,Aha _ hb]
 have e3:((46:UInt8)::(b++r)).drop (1+(b.length+Ay r some))=r.drop (Ay r some):=by
  rw[show 1+(b.length+Ay r some)=(b.length+Ay r some)+1 by omega,List.drop_succ_cons,←List.drop_drop,List.drop_left]
 rw[e3]
def Aru:List (List UInt8):=[[],[102],[70],[108],[76]]
def Bab:List (List UInt8):=[[],[43],[45]]
theorem Adj{t:List UInt8}(ht:t∈Aru):Ok t Ek∧Ok t [43,45]∧Ok t [46]∧Ok t eL∧Ok t pL∧Mc t=true:=by
 simp only[Aru,List.mem_cons,List.not_mem_nil,or_false] at ht
 rcases ht with rfl|rfl|rfl|rfl|rfl<;>refine⟨?_,?_,?_,?_,?_,by decide⟩<;>intro c q h<;>cases h<;>decide
theorem Auu{t L:List UInt8}(h:Ok t L):Oq t L=(t,false):=by
 cases t with
 |nil=>rfl
 |cons c q=>exact Aao (h c q rfl) q
theorem Ayl{a:List UInt8}{c:UInt8}{r:List UInt8}(ha:∀x∈a,x∈Ek)(hc:c≠120∧c≠88∧c≠48):Ev (a++c::r)=false:=by
 have key:∀y:UInt8,(y=120∨y=88)→¬(a++c::r).take 2=[48,y]:=by
  intro y hy h
  match a,ha,h with
  |[],_,h=>
   have:=congrArg List.head? h
   simp at this
   exact hc.2.2 this
  |[p],_,h=>
   simp at h
   rcases hy with rfl|rfl
   · exact hc.1 h.2
   · exact hc.2.1 h.2
  |p::q::a,ha,h=>
   simp at h
   have:=ha q (by simp)
   rw[h.2] at this
   rcases hy with rfl|rfl<;>revert this<;>decide
 show(decide ((a++c::r).take 2=[48,120])||decide ((a++c::r).take 2=[48,88]))=false
 rw[decide_eq_false (key 120 (.inl rfl)),decide_eq_false (key 88 (.inr rfl))];rfl
section
variable{a b e t g:List UInt8}(ha:∀x∈a,x∈Ek)(hb:∀x∈b,x∈Ek)(he:∀x∈e,x∈Ek)(ht:t∈Aru)(hg:g∈Bab)
include ha
omit ha in
theorem Ay5{n:Nat}{p:Bool}{r:List UInt8}:Aam Ek eL n p r=(!decide (n=0)&&((Oq r eL).2||p)&&Mc (Oq r eL).1):=by
 have:decide (Ek=Ec)=false:=by decide
 unfold Aam
 rw[this,Bool.or_false]
 cases decide (n=0)<;>cases(Oq r eL).2<;>cases p<;>simp
include hb ht in
theorem p1:Lp (a++46::(b++t))=(!decide (a=[])||!decide (b=[])):=by
 unfold Lp
 rw[if_neg (by rw[Ayl ha (by decide)];simp),Aky ha (by decide) hb,Ayb (Adj ht).1,List.drop_zero,Ay5,Auu (Adj ht).2.2.2.1,(Adj ht).2.2.2.2.2]
 cases a<;>cases b<;>simp
end
end Go.Den
namespace Go.Proofs
open Go.RowKit
set_option maxHeartbeats 4000000 in
set_option maxRecDepth 100000 in
theorem Tryz.A95{Q:Addr→World→Prop}(fn s:ByteArray)(base bits:Int)(w:World)
 (hr:Calls Tryz.prog 224 #[.string fn,.string s] w fun e w'=>∃a,e=.returned (.pointer (some a))∧Q a w'):
 Calls Tryz.prog 174 #[.string fn,.string s,.int .i64 base,.int .i64 bits,.iface 304 (.int .i64 1)] w fun e w'=>∃a,e=.returned (.iface 306 (.pointer (some a)))∧Q a w':=by
 have hq12:∀W,(binOp .eql 151 (.iface 304 (.int .i64 1)) (.iface 304 (.int .i64 2))).run Tryz.prog W=.ok (.bool false) W:=fun W=>Lib.run_eql_iface_int W 1 2 Tryz.underlying151 (by kernel_rfl) Tryz.underlying304
 have hq11:∀W,(binOp .eql 151 (.iface 304 (.int .i64 1)) (.iface 304 (.int .i64 1))).run Tryz.prog W=.ok (.bool true) W:=fun W=>Lib.run_eql_iface_int W 1 1 Tryz.underlying151 (by kernel_rfl) Tryz.underlying304
 go_enter Tryz.func174,Tryz.ntmps174
 go_wp2_with (go_at_call 224;refine hr.mono ?_;rintro e w2 ⟨a,rfl,hQ⟩)
 go_wp2
 go_ret
 exact⟨a,rfl,hQ⟩
end Go.Proofs
noncomputable section
namespace Go.Den
open Go.RowKit
set_option maxRecDepth 100000
def cE:Nat→AV:=fun _=>.iface 414 (.ptr (pOf 12) 0)
def oE:Ob FT:=.ext cE 1
def Aj3(i:Nat):Nat:=Bool.rec (Bool.rec 0 1 (Ai (Nat.ble 9 i) (Nat.ble i 13))) 1 (Nat.beq i 32)
def cA:Nat→AV:=fun i=>.int .u8 (.ofNat (Aj3 i))
def oA:Ob FT:=.ext cA 256
def Abj:List (Ob FT):=[oA,.dead,.dead,.dead,.dead,.dead,oE,.dead,.dead,.dead,.dead,.dead,.dead]
abbrev h1:H:=Ky Abj
def Lw(h:H):Prop:=h.at (pOf 0)=oA∧h.at (pOf 6)=oE∧13≤h.next.nat
theorem Aai:h1.at (pOf 0)=oA:=by rw[Ij,Cs];rfl
theorem Aij:h1.at (pOf 6)=oE:=by rw[Ij,Cs];rfl
theorem Afm:h1.next.nat=13:=by show(pOf 13).nat=13;rw[Cs]
theorem Ay0:Lw h1:=⟨Aai,Aij,by rw[Afm];exact Nat.le_refl _⟩
theorem Lw.keep{h h':H}(he:Lw h)(hn:h.next.nat≤h'.next.nat)(hk:∀c,c.nat<h.next.nat→h'.at c=h.at c):Lw h':=
 ⟨by rw[hk (pOf 0) (by rw[Cs];have:=he.2.2;omega)];exact he.1,by rw[hk (pOf 6) (by rw[Cs];have:=he.2.2;omega)];exact he.2.1,Nat.le_trans he.2.2 hn⟩
theorem Lw.new{h:H}{o:Ob FT}(he:Lw h):Lw (h.new o):=he.keep (by rw[Bh];omega) fun _ hc=>Dw hc
theorem Yg(b:P)(hb:h1.at b≠.dead):b=pOf 0∨b=pOf 6:=by
 rw[Ij] at hb
 have:b.nat=0∨b.nat=6:=by
  match hn:b.nat with
  |0=>exact .inl rfl
  |6=>exact .inr rfl
  |1|2|3|4|5|7|8|9|10|11|12=>rw[hn] at hb;exact absurd rfl hb
  |n+13=>rw[hn] at hb;exact absurd rfl hb
 rcases this with e|e
 · left;rw[←e,Ue]
 · right;rw[←e,Ue]
theorem Wc{F:FuncId}{args:List AV}{r:AV}(hp:Pure PP G h1 F args r)(ha:Ny args=true)(hr:plain r=true){h:H}(he:Lw h){k:KV}(hk:k r h):W1 (.func F) args h k:=fun μ w fn' vargs s gl hf hv=>by
 let μ0:Mu:=fun b=>if b.nat<13 then μ b else none
 have hin:∀b,b.nat<13→μ0 b=μ b:=fun b hb=>if_pos hb
 have hat:∀b,h1.at b≠.dead→h.at b=h1.at b∧b.nat<13:=fun b hb=>by
  rcases Yg b hb with rfl|rfl
  · exact⟨by rw[he.1,Aai],by rw[Cs];decide⟩
  · exact⟨by rw[he.2.1,Aij],by rw[Cs];decide⟩
 have s0:Sim μ0 h1 w:=by
  refine⟨fun b c hc=>?_,fun b hb=>?_,fun b l hb hl=>?_,fun b b' c c' ho=>?_⟩
  · have hc:(if b.nat<13 then μ b else none)=some c:=hc
    by_cases hb:b.nat<13
    · rw[Afm];exact hb
    · rw[if_neg hb] at hc;cases hc
  · rw[Afm] at hb
    by_cases e:h1.at b=.dead
    · exact e
    · have:=(hat b e).2;omega
  · obtain⟨e1,e2⟩:=hat b hb
    rw[hin _ e2] at hl
    have hob:=s.ob b l (by rw[e1];exact hb) hl
    rw[e1] at hob
    rcases Yg b hb with rfl|rfl
    · rw[Aai] at hob ⊢
      obtain⟨cs,e,fz,h1',h2,h3,h4⟩:=hob
      refine⟨cs,e,fz,h1',h2,h3,fun i hi=>?_⟩
      obtain⟨v,hv,hvr,ho⟩:=h4 i hi
      exact⟨v,hv,hvr,ho⟩
    · rw[Aij] at hob ⊢
      obtain⟨cs,e,fz,h1',h2,h3,h4⟩:=hob
      refine⟨cs,e,fz,h1',h2,h3,fun i hi=>?_⟩
      obtain⟨v,hv,hvr,ho⟩:=h4 i hi
      refine⟨v,hv,?_,ho⟩
      obtain⟨y,rfl,q,hq,rfl⟩:=hvr
      exact⟨_,rfl,q,by rw[hin _ (by rw[Cs];decide)];exact hq,rfl⟩
  · by_cases e:h1.at b=.dead
    · rw[e] at ho;cases ho
    · rcases Yg b e with rfl|rfl
      · rw[Aai] at ho;cases ho
      · rw[Aij] at ho;cases ho
 have g0:Gm μ0 G:=fun g hg=>by
  obtain⟨c,h2,h3⟩:=gl g hg
  have hg:g<12:=hg
  exact⟨c,by rw[hin _ (by rw[Cs];omega)];exact h2,h3⟩
 have own0:∀b,(h1.at b).own=false:=fun b=>by
  by_cases e:h1.at b=.dead
  · rw[e];rfl
  · rcases Yg b e with rfl|rfl
    · rw[Aai];rfl
    · rw[Aij];rfl
 rcases hp μ0 w fn' vargs s0 g0 (show FnR μ0 (.func F) fn' by cases fn'<;>exact hf) (VRs.plain _ _ ha hv) with⟨f,e,hh⟩|⟨l,F',tmps,qs,bd,e,_⟩
 case inr=>subst e;exact hf.elim
 refine .inl ⟨f,e,?_⟩
 rcases hh with⟨v,w',μ',av,h',h1,h2,h3,h4,h5⟩|⟨h1,h2⟩
 · subst h5
   have b:=Jl h3 own0
   exact .inl ⟨v,w',μ,av,h,h1,s.below b,.below b,VR.plain _ _ hr h4,hk⟩
 · refine .inr ⟨h1,h2.mono fun e w' he=>?_⟩
   obtain⟨v,μ',av,h',h3,h4,h5,h6,h7⟩:=he
   subst h7
   have b:=Jl h5 own0
   exact⟨v,μ,av,h,h3,s.below b,.below b,VR.plain _ _ hr h6,hk⟩
theorem Bbp{h:H}{b:P}{c:Nat→AV}{n o:Nat}{K:AV→Prop}(ha:h.at b=.ext c n)(ho:o<n)(hk:K (c o)):ld1 (.ptr b o) h K:=by
 show h.Hg b o Am K
 unfold Hp.Hg
 rw[ha]
 show Su o Am K c n
 unfold Su
 rw[show Nat.ble (Nat.add o 1) n=true from Nat.ble_eq_true_of_le ho]
 show Ca (c o) K
 rw[Cc];exact hk
theorem Bi2(n:Nat)(h:H):Au env 115 (fun e ei=>Eh (Bl (.int .i64 (Int.ofNat n))) (Bl (.int .i64 (Int.ofNat n))) h e ei)=(Bool.rec none (some (.slice h.next 0 n 1 (Nat.beq n n),h.new (.row (Aj (Kh [.int .u8 (.ofNat 0)] n) 0 .e) (Nat.mul n 1) 0 TB true)))
 (Ai (Nat.ble n n) (Ai (Ai true true) (Ai (Nat.ble n 1099511627776) (Nat.ble (Nat.mul n 1) 140737488355328)))):Option (AV×H)):=by kernel_rfl
theorem cp9(x y:AV)(h:H):Az env .copy [115,9] [x,y] h=Te x y h TB ei8:=by kernel_rfl
theorem Bde{b:P}{n:Nat}{t:Bool}{K:AV→Prop}(h:1≤n):Dd 1 0 (.slice b 0 n 1 t) K=K (.ptr b 0):=by
 show(Bool.rec Am (fN (Nat.add 0 (Nat.mul 0 1)) fun q=>K (.ptr b q)) (Ai (Nat.ble (Nat.add 0 1) n) (Nat.beq 1 1)):Prop)=_
 rw[Nat.ble_eq_true_of_le (show Nat.add 0 1≤n by show 0+1≤n;omega)]
 rfl
theorem Vt{l:List AV}{K:List AV→Prop}:asG (.agg l) K=K l:=rfl
theorem Bfx{K:Prop}:chk true K=K:=rfl
theorem Bkt(s:List UInt8)(hl:s.length≤1099511627776):Pure PP G h0 265 [S s] (S s):=by
 refine A8i (n:=1) Bs (Bjf ?_)
 unfold Adv
 rw[Ld]
 refine Ap (fun e=>?_) (fun e=>?_)
 · have e:s.length=0:=of_decide_eq_true e
   have:s=[]:=List.eq_nil_of_length_eq_zero e
   subst this;rfl
 · have e:¬s.length=0:=of_decide_eq_false e
   rw[Bi2,Nat.ble_eq_true_of_le (Nat.le_refl _),Nat.ble_eq_true_of_le hl,Nat.ble_eq_true_of_le (show Nat.mul s.length 1≤140737488355328 by show s.length*1≤_;omega)]
   show oK (some (.slice h0.next 0 s.length 1 (Nat.beq s.length s.length),h0.new (.row (Aj (Kh [.int .u8 (.ofNat 0)] s.length) 0 .e) (Nat.mul s.length 1) 0 TB true))) _
   rw[Ad,cp9]
   have ha:(h0.new (.row (Aj (Kh [.int .u8 (.ofNat 0)] s.length) 0 .e) (Nat.mul s.length 1) 0 TB true)).at h0.next=.row (Aj (Kh [.int .u8 (.ofNat 0)] s.length) 0 .e) (Nat.mul s.length 1) 0 TB true:=Ax _ _
   generalize h0.new (.row (Aj (Kh [.int .u8 (.ofNat 0)] s.length) 0 .e) (Nat.mul s.length 1) 0 TB true)=h at ha ⊢
   generalize Aj (Kh [.int .u8 (.ofNat 0)] s.length) 0 .e=t at ha
   have ec:Te (.slice h0.next 0 s.length 1 (Nat.beq s.length s.length)) (S s) h TB ei8=some (.int .i64 (.ofNat s.length),h.put h0.next (.row (Aj (ubs s) 0 t) (Nat.mul s.length 1) 0 TB true)):=by
    show(Option.rec none (fun p=>Bool.rec none (Bool.rec (Ut s.length (h.write h0.next 0 (Ja (Nat.mul s.length 1) p.2))) (Ut p.1 (h.write h0.next 0 p.2)) (Nat.ble p.1 s.length)) (Nat.beq 1 1)) (Ce h 1 (S s)):Option (AV×H))=_
    rw[Rr]
    show(Bool.rec (Ut s.length (h.write h0.next 0 (Ja (Nat.mul s.length 1) (ubs s)))) (Ut s.length (h.write h0.next 0 (ubs s))) (Nat.ble s.length s.length):Option (AV×H))=_
    rw[Nat.ble_eq_true_of_le (Nat.le_refl _)]
    show Ut s.length (h.write h0.next 0 (ubs s))=_
    have hw:h.write h0.next 0 (ubs s)=some (h.put h0.next (.row (Aj (ubs s) 0 t) (Nat.mul s.length 1) 0 TB true)):=by
     unfold Hp.write Hp.He
     rw[ha]
     show Sc h h0.next 0 (ubs s) none some t (Nat.mul s.length 1) 0 TB true=_
     unfold Sc
     rw[Dk,show(ubs s).length=s.length by simp[ubs],show Nat.ble (Nat.add 0 s.length) (Nat.mul s.length 1)=true from Nat.ble_eq_true_of_le (by show 0+s.length≤s.length*1;omega)]
     show Jz (Aj (ubs s) 0 t) (fun t=>h.Qa h0.next (.row t (Nat.mul s.length 1) 0 TB true) some)=_
     rw[Iu,Md]
    rw[hw];rfl
   rw[ec,Ad,Bu]
   rw[Bde (by omega),Me,Arq]
   have e2:Kq env (.ptr h0.next 0) (Bl (.int .i64 (Int.ofNat s.length))) (h.put h0.next (.row (Aj (ubs s) 0 t) (Nat.mul s.length 1) 0 TB true))=(Bool.rec (Ab2 env h0.next 0 s.length (h.put h0.next (.row (Aj (ubs s) 0 t) (Nat.mul s.length 1) 0 TB true)) (Em ((h.put h0.next (.row (Aj (ubs s) 0 t) (Nat.mul s.length 1) 0 TB true)).at h0.next))) (some (.str 0 0,h.put h0.next (.row (Aj (ubs s) 0 t) (Nat.mul s.length 1) 0 TB true))) (Nat.beq s.length 0):Option (AV×H)):=rfl
   have e3:Nat.beq s.length 0=false:=by rw[Fk];exact decide_eq_false e
   rw[e2,e3,Bx]
   show oK (Bool.rec none (Ns _ (Fe (Da (Aj (ubs s) 0 t) s.length 0))) (Ai (isByte env TB) (Ai (Nat.ble (Nat.add 0 s.length) (Nat.mul s.length 1)) (Nat.ble s.length (intMax .i64)))):Option (AV×H)) _
   rw[isB,Nat.ble_eq_true_of_le (show Nat.add 0 s.length≤Nat.mul s.length 1 by show 0+s.length≤s.length*1;omega),Nat.ble_eq_true_of_le (show s.length≤intMax .i64 by show s.length≤9223372036854775807;omega),(Dq.new s t).get]
   show oK (Ns _ (Fe (ubs s))) _
   rw[Ab6,Ad,Bp]
theorem b98(l c l' c':Nat)(h:H):Bo env (env.ty 365) [(0,(.str l c)),(1,(.str l' c')),(2,cE 0)] h=some (.agg [.str l c,.str l' c',cE 0],h):=by kernel_rfl
theorem Bkw{fn s:List UInt8}{h:H}{k:KV}(he:Lw h)(hl:s.length≤1099511627776)(hk:∀h' p,h.next.nat≤h'.next.nat→(∀c,c.nat<h.next.nat→h'.at c=h.at c)→k (.ptr p 0) h'):W1 (.func 224) [S fn,S s] h k:=by
 refine A8k (n:=1) Bs (Bjh ?_)
 unfold Adx
 show ld1 (.ptr (pOf 6) 0) h _
 refine Bbp he.2.1 (by decide) ?_
 refine Di (Bkt s hl) ?_
 rw[Bp]
 show ld1 (.ptr (pOf 6) 0) h _
 refine Bbp he.2.1 (by decide) ?_
 rw[show∀A:Prop,eqC (cE 0) (cE 0) A=A from fun A=>by kernel_rfl,b98,Ad]
 rw[Vt,show Nat.ble 1 (len [S fn,S s,cE 0])=true from rfl,Bfx]
 refine Dt ?_
 exact hk _ _ (by rw[Bh];omega) fun c hc=>Dw hc
theorem Ai3 {F : FuncId} {fn : Func} {c : Code} (hf : PP.funcs[F]? = some fn) (hb : fn.body = some c) (hname : (fn.name == "runtime.NumGoroutine") = false) (vargs : Array Value) (w : World) : (callFunc F vargs).run PP w = .ok (.enter F vargs) w := by
 unfold callFunc
 rw[Aa (show program.run PP w=.ok PP w from rfl),hf]
 simp only[hname,hb,Bool.false_eq_true,if_false]
 rfl
theorem Bk1{fn s:List UInt8}{base bits:Int}{h:H}{k:KV}(hg:W1 (.func 224) [S fn,S s] h fun v h'=>∃p,v=.ptr p 0∧k (.iface 306 (.ptr p 0)) h'):W1 (.func 174) [S fn,S s,.int .i64 base,.int .i64 bits,.iface 304 (.int .i64 1)] h k:=by
 intro μ w fn' vargs sim gl hfn hv
 have hfn':fn'=.func 174:=by cases fn'<;>simp only[FnR] at hfn<;>first|(cases hfn;rfl)|cases hfn
 obtain⟨v0,vs0,e0,⟨f0,rfl,hf0⟩,v1,vs1,rfl,⟨f1,rfl,hf1⟩,v2,vs2,rfl,hv2,v3,vs3,rfl,hv3,v4,vs4,rfl,⟨y,rfl,hy⟩,h5⟩:=hv
 have hv2:v2=.int .i64 base:=hv2
 have hv3:v3=.int .i64 bits:=hv3
 have hy:y=.int .i64 1:=hy
 have h5:vs4=[]:=h5
 subst hv2 hv3 hy h5
 have hva:vargs=#[.string f0,.string f1,.int .i64 base,.int .i64 bits,.iface 304 (.int .i64 1)]:=by apply Array.ext';simpa using e0
 subst hva
 refine .inl ⟨174,hfn',.inr ⟨Ai3 Proofs.Tryz.func174 rfl (by kernel_rfl) _ _,?_⟩⟩
 rcases hg μ w (.func 224) #[.string f0,.string f1] sim gl rfl ⟨_,_,rfl,⟨f0,rfl,hf0⟩,_,_,rfl,⟨f1,rfl,hf1⟩,rfl⟩ with⟨f,hf,hh⟩|⟨l,F',tmps,qs,bd,e,_⟩
 case inr=>cases e
 cases hf
 have he:=Ai3 Proofs.Tryz.func224 rfl (by kernel_rfl) #[.string f0,.string f1] w
 rcases hh with⟨v,w',μ',av,h',h1,_⟩|⟨_,h2⟩
 · rw[he] at h1;cases h1
 · refine(Proofs.Tryz.A95 (Q:=fun a w'=>∃μ' p h',Sim μ' h' w'∧Cu μ h w μ' h' w'∧VR μ' (.ptr p 0) (.pointer (some a))∧k (.iface 306 (.ptr p 0)) h') f0 f1 base bits w (h2.mono ?_)).mono ?_
   · rintro e w' ⟨v,μ',av,h',rfl,h3,h4,h5,p,rfl,h6⟩
     have h5':=h5
     obtain⟨l,hl,rfl⟩:=h5
     exact⟨_,rfl,μ',p,h',h3,h4,h5',h6⟩
   · rintro e w' ⟨a,rfl,μ',p,h',h3,h4,h5,h6⟩
     exact⟨_,μ',.iface 306 (.ptr p 0),h',rfl,h3,h4,⟨_,rfl,h5⟩,h6⟩
end Go.Den
