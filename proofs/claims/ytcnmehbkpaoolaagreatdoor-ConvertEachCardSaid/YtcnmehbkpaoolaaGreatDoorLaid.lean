/-
 Proof.
-/
import Derived.Test.YtcnmehbkpaoolaaGreatDoorByts
import Derived.KernelRfl
import Derived.Test.YtcnmehbkpaoolaaGreatDoorProg
import Derived.Lib.Walk
import Derived.Lib.IfaceEq
import Derived.WalkKit
import Derived.BigCall
namespace Go.Den
open Go.RowKit
set_option maxRecDepth 100000
theorem Bgf(s:List UInt8):Pure PP G h0 114 [S s] (.bool (Nt s)):=by
 refine Bap (n:=1) Bl (Bku ?_)
 unfold Ae6
 refine Dz (A0m s hx1) ?_
 rw[Ce]
 refine Pq (fun e=>Dz (A0m s hx2) ?_) (fun e=>?_)
 · show AV.bool _=AV.bool _
   unfold Nt
   have e:decide (s.take 2=hx1)=false:=e
   rw[e];rfl
 · show AV.bool _=AV.bool _
   unfold Nt
   have e:decide (s.take 2=hx1)=true:=e
   rw[e];rfl
theorem Al1{s q:List UInt8}{k:KV}{n:Nat}(hl:q.length≤4611686018427387904)
 (hk:k (.tuple [if Cm q Im=0 then S s else S (q.drop (Cm q Im)),.bool (decide (Cm q Im≠0))]) h0):(Abj W1 k (n+1)).a1 s.length (enc s) q.length (enc q) h0:=by
 refine A5a ?_
 unfold Ae2
 refine Dz (Aqo Alk (by decide) q hl) ?_
 rw[Au]
 refine Az (fun e=>?_) (fun e=>?_)
 · rw[Fi,beq_iff_eq] at e
   have e:Cm q Im=0:=Int.ofNat.inj e
   rw[e] at hk
   exact hk
 · have e:¬Cm q Im=0:=fun h=>by rw[h] at e;simp[Fi] at e
   rw[Ap]
   refine Ft (Lg _ _) ?_
   rw[if_neg e,decide_eq_true (show Cm q Im≠0 from e)] at hk
   exact hk
theorem A8x(s L:List UInt8)(hl:s.length≤4611686018427387904):Pure PP G h0 118 [S s,S L] (.tuple [S (Qc s L).1,.bool (Qc s L).2]):=by
 refine Bal (n:=2) Bl (Bkq ?_)
 unfold Ae3
 cases s with
 |nil=>
  refine Pq (fun e=>?_) (fun _=>?_)
  · cases e
  · exact Cj rfl rfl
 |cons x r=>
  have e0:Bm (x::r).length (enc (x::r)) 0 0=false:=Tn (t:=[]) (by simp)
  refine Pq (fun _=>?_) (fun e=>by rw[e0] at e;cases e)
  refine Cn (Nat.zero_lt_succ _) ?_
  refine Dz (A8r L x) ?_
  rw[Au,Fl]
  refine Az (fun e=>?_) (fun e=>?_)
  · have e:x∉L:=(Zn L x).1 (of_decide_eq_true e)
    have:=Ai2 e r
    rw[this]
  · have e:x∈L:=by
     by_cases h:x∈L
     · exact h
     · exact absurd ((Zn L x).2 h) (of_decide_eq_false e)
    have he:Qc (x::r) L=(if Cm (Ow r) Im=0 then(x::r,false) else((Ow r).drop (Cm (Ow r) Im),true)):=Azu e r
    have fin:((fun v (_:H)=>v=AV.tuple [S (Qc (x::r) L).1,.bool (Qc (x::r) L).2]):KV) (.tuple [if Cm (Ow r) Im=0 then S (x::r) else S ((Ow r).drop (Cm (Ow r) Im)),.bool (decide (Cm (Ow r) Im≠0))]) h0:=by
     show AV.tuple _=_
     rw[he]
     by_cases h:Cm (Ow r) Im=0<;>simp[h]
    have hr:(Ow r).length≤4611686018427387904:=Nat.le_trans (Ara r) (by simp at hl;omega)
    refine Ft (s:=x::r) (Nat.le_add_left 1 _) ?_
    show An _ _
    cases r with
    |nil=>
     refine Gi (fun e=>?_) (fun _=>?_)
     · cases e
     · exact Bo rfl (Al1 (q:=[]) hr fin)
    |cons c r=>
     have e1:Da (Bm (c::r).length (enc (c::r)) 0 0)=true:=by rw[Ks];rfl
     refine Gi (fun _=>?_) (fun e=>Bool.noConfusion (e1.symm.trans e))
     refine Cn (s:=c::r) (Nat.zero_lt_succ _) ?_
     rw[toNat_eq _ 43 (by decide)]
     have key:∀b:Bool,b=decide (c=43∨c=45)→cnd b (Ge (c::r).length (enc (c::r)) 1 (c::r).length fun l c'=>(Abj W1 (fun v _=>v=.tuple [S (Qc (x::c::r) L).1,.bool (Qc (x::c::r) L).2]) 1).a1 (x::c::r).length (enc (x::c::r)) l c' h0)
      ((Abj W1 (fun v _=>v=.tuple [S (Qc (x::c::r) L).1,.bool (Qc (x::c::r) L).2]) 1).a1 (x::c::r).length (enc (x::c::r)) (c::r).length (enc (c::r)) h0):=by
      intro b hb
      refine Az (fun e=>?_) (fun e=>?_)
      · have e:c=43∨c=45:=of_decide_eq_true (hb▸e)
        have hu:Ow (c::r)=r:=if_pos e
        rw[hu] at fin hr
        exact Ft (s:=c::r) (Nat.le_add_left 1 _) (Al1 (q:=r) hr fin)
      · have e:¬(c=43∨c=45):=of_decide_eq_false (hb▸e)
        have hu:Ow (c::r)=c::r:=if_neg e
        rw[hu] at fin hr
        exact Al1 (q:=c::r) hr fin
     refine Pq (fun e=>?_) (fun e=>?_)
     · refine Cn (s:=c::r) (Nat.zero_lt_succ _) ?_
       rw[toNat_eq _ 45 (by decide)]
       have e:¬c=43:=of_decide_eq_false e
       exact key _ (by simp only[List.getElem_cons_zero];congr 1;simp[e])
     · have e:c=43:=of_decide_eq_true e
       exact key _ (by simp[e])
def Are(r:List UInt8):Bool:=decide (r=[])||decide (r=[102])||decide (r=[70])||decide (r=[108])||decide (r=[76])
def Alb(some L:List UInt8)(n:Nat)(point:Bool)(r:List UInt8):Bool:=
 if decide (n=0)||(!(Qc r L).2&&(!point||decide (some=Gg))) then false else Are (Qc r L).1
def Wa(some L rest:List UInt8):Bool:=
 if(rest.drop (Cm rest some)).take 1=[46] then Alb some L (Cm rest some+Cm ((rest.drop (Cm rest some)).drop 1) some) true ((rest.drop (Cm rest some)).drop (1+Cm ((rest.drop (Cm rest some)).drop 1) some))
 else Alb some L (Cm rest some) false (rest.drop (Cm rest some))
def eL:List UInt8:=[101,69]
def pL:List UInt8:=[112,80]
def Wb(s:List UInt8):Bool:=if Nt s then Wa Gg pL (s.drop 2) else Wa Im eL s
theorem Beg(s:List UInt8):Bm s.length (enc s) 1 102=decide (s=[102]):=Df (t:=[102])
theorem Bk9(s:List UInt8):Bm s.length (enc s) 1 70=decide (s=[70]):=Df (t:=[70])
theorem A1q(s:List UInt8):Bm s.length (enc s) 1 108=decide (s=[108]):=Df (t:=[108])
theorem Bee(s:List UInt8):Bm s.length (enc s) 1 76=decide (s=[76]):=Df (t:=[76])
theorem Bed(s:List UInt8):Bm s.length (enc s) 22 26291342665239622251265189840170011249128153612955952=decide (s=Gg):=Df (t:=Gg)
theorem A10{some L r:List UInt8}{n m:Nat}{point:Bool}{k:KV}(hl:r.length≤4611686018427387904)(hk:k (.bool (Alb some L n point r)) h0):
 (r65 W1 k (m+1)).a1 some.length (enc some) L.length (enc L) r.length (enc r) (Int.ofNat n) point h0:=by
 refine Bdp ?_
 unfold Am4
 refine Dz (A8x r L hl) ?_
 rw[Ep,Cl,Ez,Ce]
 simp only[Atv,Ap2]
 rw[eqN,Br,Br,Bed,Gj,Beg,Bk9,A1q,Bee]
 unfold Alb at hk
 refine Az (fun e=>?_) (fun e=>?_)
 · rw[if_pos e] at hk;exact hk
 · rw[if_neg (by rw[e];simp)] at hk;exact hk
theorem A1z{some L s:List UInt8}{m:Nat}{k:KV}(hs:Ub some)(h2:2≤some.length)(hl:s.length≤2305843009213693952)(hk:k (.bool (Wa some L s)) h0):
 (r65 W1 k (m+2)).a2 some.length (enc some) L.length (enc L) s.length (enc s) h0:=by
 refine Bdo ?_
 unfold Am3
 refine Dz (Aqo hs h2 s (by omega)) ?_
 rw[Au,Ap]
 have hr:=Lg s some
 refine Ft hr ?_
 refine Dz (A0m (s.drop (Cm s some)) [46]) ?_
 rw[Ce]
 unfold Wa at hk
 have hd:(s.drop (Cm s some)).length≤s.length:=by rw[List.length_drop];omega
 refine Az (fun e=>?_) (fun e=>?_)
 · have e0:=e
   have e:(s.drop (Cm s some)).take 1=[46]:=of_decide_eq_true e
   rw[if_pos e] at hk
   have h1:1≤(s.drop (Cm s some)).length:=by
    have:=congrArg List.length e
    simp at this;simp;omega
   refine Ft h1 ?_
   have hd1:((s.drop (Cm s some)).drop 1).length≤s.length:=by rw[List.length_drop];omega
   refine Dz (Aqo hs h2 ((s.drop (Cm s some)).drop 1) (by omega)) ?_
   have hr1:=Lg ((s.drop (Cm s some)).drop 1) some
   rw[Au,As,Hj,As,Hj]
   have w1:wrap .i64 (Int.ofNat (Cm s some)+Int.ofNat (Cm ((s.drop (Cm s some)).drop 1) some))=Int.ofNat (Cm s some+Cm ((s.drop (Cm s some)).drop 1) some):=wrap64 (by show _≤((_:Nat):Int)+((_:Nat):Int);omega) (by show((_:Nat):Int)+((_:Nat):Int)≤_;omega)
   have w2:wrap .i64 (Int.ofNat 1+Int.ofNat (Cm ((s.drop (Cm s some)).drop 1) some))=Int.ofNat (1+Cm ((s.drop (Cm s some)).drop 1) some):=wrap64 (by show _≤((1:Nat):Int)+((_:Nat):Int);omega) (by show((1:Nat):Int)+((_:Nat):Int)≤_;omega)
   rw[w1,w2,Ap]
   refine Ft (by have:=List.length_drop (i:=1) (l:=s.drop (Cm s some));omega) ?_
   refine A10 (by rw[List.length_drop];omega) (by rw[e0];exact hk)
 · have e0:=e
   have e:¬(s.drop (Cm s some)).take 1=[46]:=of_decide_eq_false e
   rw[if_neg e] at hk
   exact A10 (by omega) (by rw[e0];exact hk)
theorem c65(s:List UInt8)(hl:s.length≤2305843009213693952):Pure PP G h0 65 [S s] (.bool (Wb s)):=by
 refine w65 (n:=3) Bl (g65 ?_)
 unfold Am5
 refine Dz (Bgf s) ?_
 rw[Ce]
 refine Az (fun e=>?_) (fun e=>?_)
 · have h2:2≤s.length:=by
    unfold Nt at e
    rw[Bool.or_eq_true,decide_eq_true_eq,decide_eq_true_eq] at e
    rcases e with e|e<;>(have:=congrArg List.length e;simp[hx1,hx2] at this;omega)
   refine Ft h2 ?_
   refine A1z (some:=Gg) (L:=pL) Ak8 (by decide) (by rw[List.length_drop];omega) ?_
   show AV.bool _=_
   unfold Wb;rw[if_pos e]
 · refine A1z (some:=Im) (L:=eL) Alk (by decide) hl ?_
   show AV.bool _=_
   unfold Wb;rw[if_neg (by rw[e];simp)]
theorem Bmc{set:List UInt8}(hs:Ub set)(h2:2≤set.length)(s:List UInt8)(hl:s.length≤4611686018427387904):Pure PP G h0 112 [S s,S set] (S (Gf s set)):=by
 refine Bar (n:=1) Bl (Bkw ?_)
 unfold Ae9
 have e0:Bm set.length (enc set) 0 0=false:=Tn (t:=[]) (fun h=>by subst h;simp at h2)
 rw[e0]
 have e1:Bm s.length (enc s) 0 0=decide (s=[]):=Df (t:=[])
 rw[e1]
 refine Jx ?_
 refine Az (fun e=>?_) (fun e=>?_)
 · have e:s=[]:=by simpa using e
   subst e;rfl
 · refine Gi (fun e=>?_) (fun _=>?_)
   · rw[Fi,beq_iff_eq] at e
     have:set.length=1:=by have:=Int.ofNat.inj e;exact this
     omega
   · refine Bo rfl ?_
     refine Dz hs ?_
     rw[Ep,Ez,Ce]
     refine Ek ?_
     refine Ah7 (zs:=List.replicate 256 (.bool false)) (by simp) (Xq _) (by omega) ?_
     intro h' ha
     refine Cj rfl ?_
     refine A92 (n:=s.length+2) Bl (Bj7 ?_)
     unfold Ad9
     refine Av5 (set:=set) ha (fun x=>?_) _ s hl (by omega) ?_
     · rw[Ar,if_pos ⟨Nat.zero_le _,by rw[Xq];have:=x.toNat_lt;omega⟩,Nat.sub_zero]
       exact Amn set x
     · exact Cl.mpr rfl
theorem b25(h:H):Bp env (env.ty 55) [] h=some (.agg [.int .u64 (Int.ofNat 0),.bool false],h):=by kernel_rfl
def A1a:AV:=.tuple [.agg [.int .u64 (Int.ofNat 0),.bool false],.bool false]
end Go.Den
namespace Go.Den
set_option maxRecDepth 100000
theorem Aho{a set:List UInt8}(r:List UInt8)(h:∀x∈a,x∈set):Cm (a++r) set=a.length+Cm r set:=by
 unfold Cm
 rw[List.takeWhile_append_of_pos (by simpa using h),List.length_append]
theorem Anu{c:UInt8}{set:List UInt8}(r:List UInt8)(h:c∉set):Cm (c::r) set=0:=by
 unfold Cm;simp[h]
def Nu(r set:List UInt8):Prop:=∀c q,r=c::q→c∉set
theorem Ayi{r set:List UInt8}(h:Nu r set):Cm r set=0:=by
 cases r with
 |nil=>rfl
 |cons c q=>exact Anu q (h c q rfl)
theorem Ala{some L a b r:List UInt8}(ha:∀x∈a,x∈some)(h46:(46:UInt8)∉some)(hb:∀x∈b,x∈some):Wa some L (a++46::(b++r))=Alb some L (a.length+(b.length+Cm r some)) true (r.drop (Cm r some)):=by
 have e:Cm (a++46::(b++r)) some=a.length:=by rw[Aho _ ha,Anu _ h46];omega
 unfold Wa
 rw[e,List.drop_left]
 rw[if_pos (by simp)]
 have e2:((46:UInt8)::(b++r)).drop 1=b++r:=rfl
 rw[e2,Aho _ hb]
 have e3:((46:UInt8)::(b++r)).drop (1+(b.length+Cm r some))=r.drop (Cm r some):=by
  rw[show 1+(b.length+Cm r some)=(b.length+Cm r some)+1 by omega,List.drop_succ_cons,←List.drop_drop,List.drop_left]
 rw[e3]
def Ard:List (List UInt8):=[[],[102],[70],[108],[76]]
def Bbz:List (List UInt8):=[[],[43],[45]]
theorem Adc{t:List UInt8}(ht:t∈Ard):Nu t Im∧Nu t [43,45]∧Nu t [46]∧Nu t eL∧Nu t pL∧Are t=true:=by
 simp only[Ard,List.mem_cons,List.not_mem_nil,or_false] at ht
 rcases ht with rfl|rfl|rfl|rfl|rfl<;>refine⟨?_,?_,?_,?_,?_,by decide⟩<;>intro c q h<;>cases h<;>decide
theorem Auu{t L:List UInt8}(h:Nu t L):Qc t L=(t,false):=by
 cases t with
 |nil=>rfl
 |cons c q=>exact Ai2 (h c q rfl) q
theorem Ay2{a:List UInt8}{c:UInt8}{r:List UInt8}(ha:∀x∈a,x∈Im)(hc:c≠120∧c≠88∧c≠48):Nt (a++c::r)=false:=by
 have key:∀y:UInt8,(y=120∨y=88)→¬(a++c::r).take 2=[48,y]:=by
  intro y hy h
  match a,ha,h with
  |[],_,h=>
   have:=congrArg List.head? h
   simp at this
   exact hc.2.2 this
  |[p],_,h=>
   simp at h
   rcases hy with rfl|rfl
   · exact hc.1 h.2
   · exact hc.2.1 h.2
  |p::q::a,ha,h=>
   simp at h
   have:=ha q (by simp)
   rw[h.2] at this
   rcases hy with rfl|rfl<;>revert this<;>decide
 show(decide ((a++c::r).take 2=[48,120])||decide ((a++c::r).take 2=[48,88]))=false
 rw[decide_eq_false (key 120 (.inl rfl)),decide_eq_false (key 88 (.inr rfl))];rfl
section
variable{a b e t g:List UInt8}(ha:∀x∈a,x∈Im)(hb:∀x∈b,x∈Im)(he:∀x∈e,x∈Im)(ht:t∈Ard)(hg:g∈Bbz)
include ha
omit ha in
theorem Azs{n:Nat}{p:Bool}{r:List UInt8}:Alb Im eL n p r=(!decide (n=0)&&((Qc r eL).2||p)&&Are (Qc r eL).1):=by
 have:decide (Im=Gg)=false:=by decide
 unfold Alb
 rw[this,Bool.or_false]
 cases decide (n=0)<;>cases(Qc r eL).2<;>cases p<;>simp
include hb ht in
theorem p1:Wb (a++46::(b++t))=(!decide (a=[])||!decide (b=[])):=by
 unfold Wb
 rw[if_neg (by rw[Ay2 ha (by decide)];simp),Ala ha (by decide) hb,Ayi (Adc ht).1,List.drop_zero,Azs,Auu (Adc ht).2.2.2.1,(Adc ht).2.2.2.2.2]
 cases a<;>cases b<;>simp
end
end Go.Den
namespace Go.Proofs
open Go.RowKit
set_option maxHeartbeats 4000000 in
set_option maxRecDepth 100000 in
theorem Tryz.Bbt{Q:Addr→World→Prop}(fn s:ByteArray)(base bits:Int)(w:World)
 (hr:Calls Tryz.prog 224 #[.string fn,.string s] w fun e w'=>∃a,e=.returned (.pointer (some a))∧Q a w'):
 Calls Tryz.prog 174 #[.string fn,.string s,.int .i64 base,.int .i64 bits,.iface 304 (.int .i64 1)] w fun e w'=>∃a,e=.returned (.iface 306 (.pointer (some a)))∧Q a w':=by
 have hq12:∀W,(binOp .eql 151 (.iface 304 (.int .i64 1)) (.iface 304 (.int .i64 2))).run Tryz.prog W=.ok (.bool false) W:=fun W=>Lib.run_eql_iface_int W 1 2 Tryz.underlying151 (by kernel_rfl) Tryz.underlying304
 have hq11:∀W,(binOp .eql 151 (.iface 304 (.int .i64 1)) (.iface 304 (.int .i64 1))).run Tryz.prog W=.ok (.bool true) W:=fun W=>Lib.run_eql_iface_int W 1 1 Tryz.underlying151 (by kernel_rfl) Tryz.underlying304
 go_enter Tryz.func174,Tryz.ntmps174
 go_wp2_with (go_at_call 224;refine hr.mono ?_;rintro e w2 ⟨a,rfl,hQ⟩)
 go_wp2
 go_ret
 exact⟨a,rfl,hQ⟩
end Go.Proofs
noncomputable section
namespace Go.Den
open Go.RowKit
set_option maxRecDepth 100000
def cE:Nat→AV:=fun _=>.iface 414 (.ptr (pOf 12) 0)
def oE:Ob FT:=.ext cE 1
def Akd(i:Nat):Nat:=Bool.rec (Bool.rec 0 1 (Ah (Nat.ble 9 i) (Nat.ble i 13))) 1 (Nat.beq i 32)
def cA:Nat→AV:=fun i=>.int .u8 (.ofNat (Akd i))
def oA:Ob FT:=.ext cA 256
def Bc5:List (Ob FT):=[oA,.dead,.dead,.dead,.dead,.dead,oE,.dead,.dead,.dead,.dead,.dead,.dead]
abbrev h1:H:=Uo Bc5
def Ly(h:H):Prop:=h.at (pOf 0)=oA∧h.at (pOf 6)=oE∧13≤h.next.nat
theorem Aam:h1.at (pOf 0)=oA:=by rw[Kl,Dp];rfl
theorem Ait:h1.at (pOf 6)=oE:=by rw[Kl,Dp];rfl
theorem Afw:h1.next.nat=13:=by show(pOf 13).nat=13;rw[Dp]
theorem Aom:Ly h1:=⟨Aam,Ait,by rw[Afw];exact Nat.le_refl _⟩
theorem Ly.keep{h h':H}(he:Ly h)(hn:h.next.nat≤h'.next.nat)(hk:∀c,c.nat<h.next.nat→h'.at c=h.at c):Ly h':=
 ⟨by rw[hk (pOf 0) (by rw[Dp];have:=he.2.2;omega)];exact he.1,by rw[hk (pOf 6) (by rw[Dp];have:=he.2.2;omega)];exact he.2.1,Nat.le_trans he.2.2 hn⟩
theorem Ly.new{h:H}{o:Ob FT}(he:Ly h):Ly (h.new o):=he.keep (by rw[Be];omega) fun _ hc=>Dd hc
theorem Xy(b:P)(hb:h1.at b≠.dead):b=pOf 0∨b=pOf 6:=by
 rw[Kl] at hb
 have:b.nat=0∨b.nat=6:=by
  match hn:b.nat with
  |0=>exact .inl rfl
  |6=>exact .inr rfl
  |1|2|3|4|5|7|8|9|10|11|12=>rw[hn] at hb;exact absurd rfl hb
  |n+13=>rw[hn] at hb;exact absurd rfl hb
 rcases this with e|e
 · left;rw[←e,Tx]
 · right;rw[←e,Tx]
theorem Acg{F:FuncId}{args:List AV}{r:AV}(hp:Pure PP G h1 F args r)(ha:Ni args=true)(hr:plain r=true){h:H}(he:Ly h){k:KV}(hk:k r h):W1 (.func F) args h k:=fun μ w fn' vargs s gl hf hv=>by
 let μ0:Mu:=fun b=>if b.nat<13 then μ b else none
 have hin:∀b,b.nat<13→μ0 b=μ b:=fun b hb=>if_pos hb
 have hat:∀b,h1.at b≠.dead→h.at b=h1.at b∧b.nat<13:=fun b hb=>by
  rcases Xy b hb with rfl|rfl
  · exact⟨by rw[he.1,Aam],by rw[Dp];decide⟩
  · exact⟨by rw[he.2.1,Ait],by rw[Dp];decide⟩
 have s0:Sim μ0 h1 w:=by
  refine⟨fun b c hc=>?_,fun b hb=>?_,fun b l hb hl=>?_,fun b b' c c' ho=>?_⟩
  · have hc:(if b.nat<13 then μ b else none)=some c:=hc
    by_cases hb:b.nat<13
    · rw[Afw];exact hb
    · rw[if_neg hb] at hc;cases hc
  · rw[Afw] at hb
    by_cases e:h1.at b=.dead
    · exact e
    · have:=(hat b e).2;omega
  · obtain⟨e1,e2⟩:=hat b hb
    rw[hin _ e2] at hl
    have hob:=s.ob b l (by rw[e1];exact hb) hl
    rw[e1] at hob
    rcases Xy b hb with rfl|rfl
    · rw[Aam] at hob ⊢
      obtain⟨cs,e,fz,h1',h2,h3,h4⟩:=hob
      refine⟨cs,e,fz,h1',h2,h3,fun i hi=>?_⟩
      obtain⟨v,hv,hvr,ho⟩:=h4 i hi
      exact⟨v,hv,hvr,ho⟩
    · rw[Ait] at hob ⊢
      obtain⟨cs,e,fz,h1',h2,h3,h4⟩:=hob
      refine⟨cs,e,fz,h1',h2,h3,fun i hi=>?_⟩
      obtain⟨v,hv,hvr,ho⟩:=h4 i hi
      refine⟨v,hv,?_,ho⟩
      obtain⟨y,rfl,q,hq,rfl⟩:=hvr
      exact⟨_,rfl,q,by rw[hin _ (by rw[Dp];decide)];exact hq,rfl⟩
  · by_cases e:h1.at b=.dead
    · rw[e] at ho;cases ho
    · rcases Xy b e with rfl|rfl
      · rw[Aam] at ho;cases ho
      · rw[Ait] at ho;cases ho
 have g0:Fw μ0 G:=fun g hg=>by
  obtain⟨c,h2,h3⟩:=gl g hg
  have hg:g<12:=hg
  exact⟨c,by rw[hin _ (by rw[Dp];omega)];exact h2,h3⟩
 have own0:∀b,(h1.at b).own=false:=fun b=>by
  by_cases e:h1.at b=.dead
  · rw[e];rfl
  · rcases Xy b e with rfl|rfl
    · rw[Aam];rfl
    · rw[Ait];rfl
 rcases hp μ0 w fn' vargs s0 g0 (show FnR μ0 (.func F) fn' by cases fn'<;>exact hf) (VRs.plain _ _ ha hv) with⟨f,e,hh⟩|⟨l,F',tmps,qs,bd,e,_⟩
 case inr=>subst e;exact hf.elim
 refine .inl ⟨f,e,?_⟩
 rcases hh with⟨v,w',μ',av,h',h1,h2,h3,h4,h5⟩|⟨h1,h2⟩
 · subst h5
   have b:=Io h3 own0
   exact .inl ⟨v,w',μ,av,h,h1,s.below b,.below b,VR.plain _ _ hr h4,hk⟩
 · refine .inr ⟨h1,h2.mono fun e w' he=>?_⟩
   obtain⟨v,μ',av,h',h3,h4,h5,h6,h7⟩:=he
   subst h7
   have b:=Io h5 own0
   exact⟨v,μ,av,h,h3,s.below b,.below b,VR.plain _ _ hr h6,hk⟩
theorem Bdg{h:H}{b:P}{c:Nat→AV}{n o:Nat}{K:AV→Prop}(ha:h.at b=.ext c n)(ho:o<n)(hk:K (c o)):ld1 (.ptr b o) h K:=by
 show h.Gp b o Aj K
 unfold Hp.Gp
 rw[ha]
 show Sp o Aj K c n
 unfold Sp
 rw[show Nat.ble (Nat.add o 1) n=true from Nat.ble_eq_true_of_le ho]
 show Bw (c o) K
 rw[By];exact hk
theorem Bjd(n:Nat)(h:H):Ao env 115 (fun e ei=>Dv (Bc (.int .i64 (Int.ofNat n))) (Bc (.int .i64 (Int.ofNat n))) h e ei)=(Bool.rec none (some (.slice h.next 0 n 1 (Nat.beq n n),h.new (.row (Ai (Ju [.int .u8 (.ofNat 0)] n) 0 .e) (Nat.mul n 1) 0 TB true)))
 (Ah (Nat.ble n n) (Ah (Ah true true) (Ah (Nat.ble n 1099511627776) (Nat.ble (Nat.mul n 1) 140737488355328)))):Option (AV×H)):=by kernel_rfl
theorem cp9(x y:AV)(h:H):Aq env .copy [115,9] [x,y] h=Sz x y h TB ei8:=by kernel_rfl
theorem Bei{b:P}{n:Nat}{t:Bool}{K:AV→Prop}(h:1≤n):Bz 1 0 (.slice b 0 n 1 t) K=K (.ptr b 0):=by
 show(Bool.rec Aj (fN (Nat.add 0 (Nat.mul 0 1)) fun q=>K (.ptr b q)) (Ah (Nat.ble (Nat.add 0 1) n) (Nat.beq 1 1)):Prop)=_
 rw[Nat.ble_eq_true_of_le (show Nat.add 0 1≤n by show 0+1≤n;omega)]
 rfl
theorem Xh{l:List AV}{K:List AV→Prop}:asG (.agg l) K=K l:=rfl
theorem Bf2{K:Prop}:chk true K=K:=rfl
theorem Blr(s:List UInt8)(hl:s.length≤1099511627776):Pure PP G h0 265 [S s] (S s):=by
 refine A9p (n:=1) Bl (Bju ?_)
 unfold Ado
 rw[Ru]
 refine Az (fun e=>?_) (fun e=>?_)
 · have e:s.length=0:=of_decide_eq_true e
   have:s=[]:=List.eq_nil_of_length_eq_zero e
   subst this;rfl
 · have e:¬s.length=0:=of_decide_eq_false e
   rw[Bjd,Nat.ble_eq_true_of_le (Nat.le_refl _),Nat.ble_eq_true_of_le hl,Nat.ble_eq_true_of_le (show Nat.mul s.length 1≤140737488355328 by show s.length*1≤_;omega)]
   show oK (some (.slice h0.next 0 s.length 1 (Nat.beq s.length s.length),h0.new (.row (Ai (Ju [.int .u8 (.ofNat 0)] s.length) 0 .e) (Nat.mul s.length 1) 0 TB true))) _
   rw[Ae,cp9]
   have ha:(h0.new (.row (Ai (Ju [.int .u8 (.ofNat 0)] s.length) 0 .e) (Nat.mul s.length 1) 0 TB true)).at h0.next=.row (Ai (Ju [.int .u8 (.ofNat 0)] s.length) 0 .e) (Nat.mul s.length 1) 0 TB true:=Ay _ _
   generalize h0.new (.row (Ai (Ju [.int .u8 (.ofNat 0)] s.length) 0 .e) (Nat.mul s.length 1) 0 TB true)=h at ha ⊢
   generalize Ai (Ju [.int .u8 (.ofNat 0)] s.length) 0 .e=t at ha
   have ec:Sz (.slice h0.next 0 s.length 1 (Nat.beq s.length s.length)) (S s) h TB ei8=some (.int .i64 (.ofNat s.length),h.put h0.next (.row (Ai (ubs s) 0 t) (Nat.mul s.length 1) 0 TB true)):=by
    show(Option.rec none (fun p=>Bool.rec none (Bool.rec (Un s.length (h.write h0.next 0 (Ie (Nat.mul s.length 1) p.2))) (Un p.1 (h.write h0.next 0 p.2)) (Nat.ble p.1 s.length)) (Nat.beq 1 1)) (Bv h 1 (S s)):Option (AV×H))=_
    rw[Ri]
    show(Bool.rec (Un s.length (h.write h0.next 0 (Ie (Nat.mul s.length 1) (ubs s)))) (Un s.length (h.write h0.next 0 (ubs s))) (Nat.ble s.length s.length):Option (AV×H))=_
    rw[Nat.ble_eq_true_of_le (Nat.le_refl _)]
    show Un s.length (h.write h0.next 0 (ubs s))=_
    have hw:h.write h0.next 0 (ubs s)=some (h.put h0.next (.row (Ai (ubs s) 0 t) (Nat.mul s.length 1) 0 TB true)):=by
     unfold Hp.write Hp.Gm
     rw[ha]
     show Ry h h0.next 0 (ubs s) none some t (Nat.mul s.length 1) 0 TB true=_
     unfold Ry
     rw[Di,show(ubs s).length=s.length by simp[ubs],show Nat.ble (Nat.add 0 s.length) (Nat.mul s.length 1)=true from Nat.ble_eq_true_of_le (by show 0+s.length≤s.length*1;omega)]
     show Ja (Ai (ubs s) 0 t) (fun t=>h.Po h0.next (.row t (Nat.mul s.length 1) 0 TB true) some)=_
     rw[Hy,Lh]
    rw[hw];rfl
   rw[ec,Ae,Au]
   rw[Bei (by omega),Li,Aq9]
   have e2:Jq env (.ptr h0.next 0) (Bc (.int .i64 (Int.ofNat s.length))) (h.put h0.next (.row (Ai (ubs s) 0 t) (Nat.mul s.length 1) 0 TB true))=(Bool.rec (Ab4 env h0.next 0 s.length (h.put h0.next (.row (Ai (ubs s) 0 t) (Nat.mul s.length 1) 0 TB true)) (Dx ((h.put h0.next (.row (Ai (ubs s) 0 t) (Nat.mul s.length 1) 0 TB true)).at h0.next))) (some (.str 0 0,h.put h0.next (.row (Ai (ubs s) 0 t) (Nat.mul s.length 1) 0 TB true))) (Nat.beq s.length 0):Option (AV×H)):=rfl
   have e3:Nat.beq s.length 0=false:=by rw[Fa];exact decide_eq_false e
   rw[e2,e3,Bk]
   show oK (Bool.rec none (Nb _ (Et (Cq (Ai (ubs s) 0 t) s.length 0))) (Ah (isByte env TB) (Ah (Nat.ble (Nat.add 0 s.length) (Nat.mul s.length 1)) (Nat.ble s.length (intMax .i64)))):Option (AV×H)) _
   rw[isB,Nat.ble_eq_true_of_le (show Nat.add 0 s.length≤Nat.mul s.length 1 by show 0+s.length≤s.length*1;omega),Nat.ble_eq_true_of_le (show s.length≤intMax .i64 by show s.length≤9223372036854775807;omega),(Dy.new s t).get]
   show oK (Nb _ (Et (ubs s))) _
   rw[Ab5,Ae,Cl]
theorem b98(l c l' c':Nat)(h:H):Bp env (env.ty 365) [(0,(.str l c)),(1,(.str l' c')),(2,cE 0)] h=some (.agg [.str l c,.str l' c',cE 0],h):=by kernel_rfl
theorem Blu{fn s:List UInt8}{h:H}{k:KV}(he:Ly h)(hl:s.length≤1099511627776)(hk:∀h' p,h.next.nat≤h'.next.nat→(∀c,c.nat<h.next.nat→h'.at c=h.at c)→k (.ptr p 0) h'):W1 (.func 224) [S fn,S s] h k:=by
 refine A9r (n:=1) Bl (Bjw ?_)
 unfold Adq
 show ld1 (.ptr (pOf 6) 0) h _
 refine Bdg he.2.1 (by decide) ?_
 refine Dz (Blr s hl) ?_
 rw[Cl]
 show ld1 (.ptr (pOf 6) 0) h _
 refine Bdg he.2.1 (by decide) ?_
 rw[show∀A:Prop,eqC (cE 0) (cE 0) A=A from fun A=>by kernel_rfl,b98,Ae]
 rw[Xh,show Nat.ble 1 (len [S fn,S s,cE 0])=true from rfl,Bf2]
 refine Ek ?_
 exact hk _ _ (by rw[Be];omega) fun c hc=>Dd hc
theorem Ajd {F : FuncId} {fn : Func} {c : Code} (hf : PP.funcs[F]? = some fn) (hb : fn.body = some c) (hname : (fn.name == "runtime.NumGoroutine") = false) (vargs : Array Value) (w : World) : (callFunc F vargs).run PP w = .ok (.enter F vargs) w := by
 unfold callFunc
 rw[Aa (show program.run PP w=.ok PP w from rfl),hf]
 simp only[hname,hb,Bool.false_eq_true,if_false]
 rfl
theorem Blz{fn s:List UInt8}{base bits:Int}{h:H}{k:KV}(hg:W1 (.func 224) [S fn,S s] h fun v h'=>∃p,v=.ptr p 0∧k (.iface 306 (.ptr p 0)) h'):W1 (.func 174) [S fn,S s,.int .i64 base,.int .i64 bits,.iface 304 (.int .i64 1)] h k:=by
 intro μ w fn' vargs sim gl hfn hv
 have hfn':fn'=.func 174:=by cases fn'<;>simp only[FnR] at hfn<;>first|(cases hfn;rfl)|cases hfn
 obtain⟨v0,vs0,e0,⟨f0,rfl,hf0⟩,v1,vs1,rfl,⟨f1,rfl,hf1⟩,v2,vs2,rfl,hv2,v3,vs3,rfl,hv3,v4,vs4,rfl,⟨y,rfl,hy⟩,h5⟩:=hv
 have hv2:v2=.int .i64 base:=hv2
 have hv3:v3=.int .i64 bits:=hv3
 have hy:y=.int .i64 1:=hy
 have h5:vs4=[]:=h5
 subst hv2 hv3 hy h5
 have hva:vargs=#[.string f0,.string f1,.int .i64 base,.int .i64 bits,.iface 304 (.int .i64 1)]:=by apply Array.ext';simpa using e0
 subst hva
 refine .inl ⟨174,hfn',.inr ⟨Ajd Proofs.Tryz.func174 rfl (by kernel_rfl) _ _,?_⟩⟩
 rcases hg μ w (.func 224) #[.string f0,.string f1] sim gl rfl ⟨_,_,rfl,⟨f0,rfl,hf0⟩,_,_,rfl,⟨f1,rfl,hf1⟩,rfl⟩ with⟨f,hf,hh⟩|⟨l,F',tmps,qs,bd,e,_⟩
 case inr=>cases e
 cases hf
 have he:=Ajd Proofs.Tryz.func224 rfl (by kernel_rfl) #[.string f0,.string f1] w
 rcases hh with⟨v,w',μ',av,h',h1,_⟩|⟨_,h2⟩
 · rw[he] at h1;cases h1
 · refine(Proofs.Tryz.Bbt (Q:=fun a w'=>∃μ' p h',Sim μ' h' w'∧Cr μ h w μ' h' w'∧VR μ' (.ptr p 0) (.pointer (some a))∧k (.iface 306 (.ptr p 0)) h') f0 f1 base bits w (h2.mono ?_)).mono ?_
   · rintro e w' ⟨v,μ',av,h',rfl,h3,h4,h5,p,rfl,h6⟩
     have h5':=h5
     obtain⟨l,hl,rfl⟩:=h5
     exact⟨_,rfl,μ',p,h',h3,h4,h5',h6⟩
   · rintro e w' ⟨a,rfl,μ',p,h',h3,h4,h5,h6⟩
     exact⟨_,μ',.iface 306 (.ptr p 0),h',rfl,h3,h4,⟨_,rfl,h5⟩,h6⟩
end Go.Den
