/-
 Proof.
-/
import Derived.Test.YtcnmehbkpaoolaaGreatDoorByts
import Derived.KernelRfl
import Derived.Test.YtcnmehbkpaoolaaGreatDoorProg
import Derived.Lib.Walk
import Derived.Lib.IfaceEq
import Derived.WalkKit
import Derived.BigCall
namespace Go.Den
open Go.RowKit
set_option maxRecDepth 100000
theorem Blf(s:List UInt8):Pure PP G h0 114 [S s] (.bool (Hu s)):=by
 refine A9x (n:=1) Bw (Bj7 ?_)
 unfold Ael
 refine Dh (A8f s hx1) ?_
 rw[Av]
 refine Hx (fun e=>Dh (A8f s hx2) ?_) (fun e=>?_)
 · show AV.bool _=AV.bool _
   unfold Hu
   have e:decide (s.take 2=hx1)=false:=e
   rw[e];rfl
 · show AV.bool _=AV.bool _
   unfold Hu
   have e:decide (s.take 2=hx1)=true:=e
   rw[e];rfl
theorem Bdg(s:List UInt8):Bc s.length (enc s) 1 108=decide (s=[108]):=Dg (t:=[108])
theorem Bkj(s:List UInt8):Bc s.length (enc s) 1 76=decide (s=[76]):=Dg (t:=[76])
theorem Blh{set:List UInt8}(hs:Wg set)(h2:2≤set.length)(s:List UInt8)(hl:s.length≤4611686018427387904):Pure PP G h0 112 [S s,S set] (S (Eu s set)):=by
 refine A9z (n:=1) Bw (Bj9 ?_)
 unfold Aeo
 have e0:Bc set.length (enc set) 0 0=false:=Yk (t:=[]) (fun h=>by subst h;simp at h2)
 rw[e0]
 have e1:Bc s.length (enc s) 0 0=decide (s=[]):=Dg (t:=[])
 rw[e1]
 refine Hf ?_
 refine Ap (fun e=>?_) (fun e=>?_)
 · have e:s=[]:=by simpa using e
   subst e;rfl
 · refine Fu (fun e=>?_) (fun _=>?_)
   · rw[Fz,beq_iff_eq] at e
     have:set.length=1:=by have:=Int.ofNat.inj e;exact this
     omega
   · refine Ca rfl ?_
     refine Dh hs ?_
     rw[Eb,Eh,Av]
     refine Bo ?_
     refine Ahm (zs:=List.replicate 256 (.bool false)) (by simp) (Xh _) (by omega) ?_
     intro h' ha
     refine Bz rfl ?_
     refine A9k (n:=s.length+2) Bw (Bjs ?_)
     unfold Adu
     refine Aup (set:=set) ha (fun x=>?_) _ s hl (by omega) ?_
     · rw[Cd,if_pos ⟨Nat.zero_le _,by rw[Xh];have:=x.toNat_lt;omega⟩,Nat.sub_zero]
       exact Ald set x
     · exact De.mpr rfl
theorem b25(h:H):Ax env (env.ty 55) [] h=some (.agg [.int .u64 (Int.ofNat 0),.bool false],h):=by kernel_rfl
def Ayx:AV:=.tuple [.agg [.int .u64 (Int.ofNat 0),.bool false],.bool false]
end Go.Den
namespace Go.Den
set_option maxRecDepth 100000
def Blq:List (List UInt8):=[[],[43],[45]]
end Go.Den
namespace Go.Proofs
open Go.RowKit
set_option maxHeartbeats 4000000 in
set_option maxRecDepth 100000 in
theorem Tryz.Bav{Q:Addr→World→Prop}(fn s:ByteArray)(base bits:Int)(w:World)
 (hr:Calls Tryz.prog 224 #[.string fn,.string s] w fun e w'=>∃a,e=.returned (.pointer (some a))∧Q a w'):
 Calls Tryz.prog 174 #[.string fn,.string s,.int .i64 base,.int .i64 bits,.iface 304 (.int .i64 1)] w fun e w'=>∃a,e=.returned (.iface 306 (.pointer (some a)))∧Q a w':=by
 have hq12:∀W,(binOp .eql 151 (.iface 304 (.int .i64 1)) (.iface 304 (.int .i64 2))).run Tryz.prog W=.ok (.bool false) W:=fun W=>Lib.run_eql_iface_int W 1 2 Tryz.underlying151 (by kernel_rfl) Tryz.underlying304
 have hq11:∀W,(binOp .eql 151 (.iface 304 (.int .i64 1)) (.iface 304 (.int .i64 1))).run Tryz.prog W=.ok (.bool true) W:=fun W=>Lib.run_eql_iface_int W 1 1 Tryz.underlying151 (by kernel_rfl) Tryz.underlying304
 go_enter Tryz.func174,Tryz.ntmps174
 go_wp2_with (go_at_call 224;refine hr.mono ?_;rintro e w2 ⟨a,rfl,hQ⟩)
 go_wp2
 go_ret
 exact⟨a,rfl,hQ⟩
end Go.Proofs
noncomputable section
namespace Go.Den
open Go.RowKit
set_option maxRecDepth 100000
def cE:Nat→AV:=fun _=>.iface 414 (.ptr (pOf 12) 0)
def oE:Ob FT:=.ext cE 1
def oA:Ob FT:=.dead
def Aa1:List (Ob FT):=[oA,.dead,.dead,.dead,.dead,.dead,oE,.dead,.dead,.dead,.dead,.dead,.dead]
abbrev h1:H:=Lf Aa1
def Ky(h:H):Prop:=h.at (pOf 0)=oA∧h.at (pOf 6)=oE∧13≤h.next.nat
theorem Zu:h1.at (pOf 0)=oA:=by rw[Kw,Dw];rfl
theorem Ah6:h1.at (pOf 6)=oE:=by rw[Kw,Dw];rfl
theorem Afa:h1.next.nat=13:=by show(pOf 13).nat=13;rw[Dw]
theorem Axm:Ky h1:=⟨Zu,Ah6,by rw[Afa];exact Nat.le_refl _⟩
theorem Ky.keep{h h':H}(he:Ky h)(hn:h.next.nat≤h'.next.nat)(hk:∀c,c.nat<h.next.nat→h'.at c=h.at c):Ky h':=
 ⟨by rw[hk (pOf 0) (by rw[Dw];have:=he.2.2;omega)];exact he.1,by rw[hk (pOf 6) (by rw[Dw];have:=he.2.2;omega)];exact he.2.1,Nat.le_trans he.2.2 hn⟩
theorem Ky.new{h:H}{o:Ob FT}(he:Ky h):Ky (h.new o):=he.keep (by rw[Aw];omega) fun _ hc=>Gw hc
theorem Xp(b:P)(hb:h1.at b≠.dead):b=pOf 0∨b=pOf 6:=by
 rw[Kw] at hb
 have:b.nat=0∨b.nat=6:=by
  match hn:b.nat with
  |0=>exact .inl rfl
  |6=>exact .inr rfl
  |1|2|3|4|5|7|8|9|10|11|12=>rw[hn] at hb;exact absurd rfl hb
  |n+13=>rw[hn] at hb;exact absurd rfl hb
 rcases this with e|e
 · left;rw[←e,Ae2]
 · right;rw[←e,Ae2]
theorem Abs{F:FuncId}{args:List AV}{r:AV}(hp:Pure PP G h1 F args r)(ha:Nu args=true)(hr:plain r=true){h:H}(he:Ky h){k:KV}(hk:k r h):W1 (.func F) args h k:=fun μ w fn' vargs s gl hf hv=>by
 let μ0:Mu:=fun b=>if b.nat<13 then μ b else none
 have hin:∀b,b.nat<13→μ0 b=μ b:=fun b hb=>if_pos hb
 have hat:∀b,h1.at b≠.dead→h.at b=h1.at b∧b.nat<13:=fun b hb=>by
  rcases Xp b hb with rfl|rfl
  · exact⟨by rw[he.1,Zu],by rw[Dw];decide⟩
  · exact⟨by rw[he.2.1,Ah6],by rw[Dw];decide⟩
 have s0:Sim μ0 h1 w:=by
  refine⟨fun b c hc=>?_,fun b hb=>?_,fun b l hb hl=>?_,fun b b' c c' ho=>?_⟩
  · have hc:(if b.nat<13 then μ b else none)=some c:=hc
    by_cases hb:b.nat<13
    · rw[Afa];exact hb
    · rw[if_neg hb] at hc;cases hc
  · rw[Afa] at hb
    by_cases e:h1.at b=.dead
    · exact e
    · have:=(hat b e).2;omega
  · obtain⟨e1,e2⟩:=hat b hb
    rw[hin _ e2] at hl
    have hob:=s.ob b l (by rw[e1];exact hb) hl
    rw[e1] at hob
    rcases Xp b hb with rfl|rfl
    · exact absurd Zu hb
    · rw[Ah6] at hob ⊢
      obtain⟨cs,e,fz,h1',h2,h3,h4⟩:=hob
      refine⟨cs,e,fz,h1',h2,h3,fun i hi=>?_⟩
      obtain⟨v,hv,hvr,ho⟩:=h4 i hi
      refine⟨v,hv,?_,ho⟩
      obtain⟨y,rfl,q,hq,rfl⟩:=hvr
      exact⟨_,rfl,q,by rw[hin _ (by rw[Dw];decide)];exact hq,rfl⟩
  · by_cases e:h1.at b=.dead
    · rw[e] at ho;cases ho
    · rcases Xp b e with rfl|rfl
      · rw[Zu] at ho;cases ho
      · rw[Ah6] at ho;cases ho
 have g0:Gy μ0 G:=fun g hg=>by
  obtain⟨c,h2,h3⟩:=gl g hg
  have hg:g<12:=hg
  exact⟨c,by rw[hin _ (by rw[Dw];omega)];exact h2,h3⟩
 have own0:∀b,(h1.at b).own=false:=fun b=>by
  by_cases e:h1.at b=.dead
  · rw[e];rfl
  · rcases Xp b e with rfl|rfl
    · rw[Zu];rfl
    · rw[Ah6];rfl
 rcases hp μ0 w fn' vargs s0 g0 (show FnR μ0 (.func F) fn' by cases fn'<;>exact hf) (VRs.plain _ _ ha hv) with⟨f,e,hh⟩|⟨l,F',tmps,qs,bd,e,_⟩
 case inr=>subst e;exact hf.elim
 refine .inl ⟨f,e,?_⟩
 rcases hh with⟨v,w',μ',av,h',h1,h2,h3,h4,h5⟩|⟨h1,h2⟩
 · subst h5
   have b:=Jf h3 own0
   exact .inl ⟨v,w',μ,av,h,h1,s.below b,.below b,VR.plain _ _ hr h4,hk⟩
 · refine .inr ⟨h1,h2.mono fun e w' he=>?_⟩
   obtain⟨v,μ',av,h',h3,h4,h5,h6,h7⟩:=he
   subst h7
   have b:=Jf h5 own0
   exact⟨v,μ,av,h,h3,s.below b,.below b,VR.plain _ _ hr h6,hk⟩
theorem Bce{h:H}{b:P}{c:Nat→AV}{n o:Nat}{K:AV→Prop}(ha:h.at b=.ext c n)(ho:o<n)(hk:K (c o)):ld1 (.ptr b o) h K:=by
 show h.Hs b o Am K
 unfold Hp.Hs
 rw[ha]
 show Sy o Am K c n
 unfold Sy
 rw[show Nat.ble (Nat.add o 1) n=true from Nat.ble_eq_true_of_le ho]
 show Cf (c o) K
 rw[Ch];exact hk
theorem Bi0(n:Nat)(h:H):Ao env 115 (fun e ei=>Eo (Bt (.int .i64 (Int.ofNat n))) (Bt (.int .i64 (Int.ofNat n))) h e ei)=(Bool.rec none (some (.slice h.next 0 n 1 (Nat.beq n n),h.new (.row (Bg (He [.int .u8 (.ofNat 0)] n) 0 .e) (Nat.mul n 1) 0 TB true)))
 (An (Nat.ble n n) (An (An true true) (An (Nat.ble n 1099511627776) (Nat.ble (Nat.mul n 1) 140737488355328)))):Option (AV×H)):=by kernel_rfl
theorem cp9(x y:AV)(h:H):Cb env .copy [115,9] [x,y] h=Vw x y h TB ei8:=by kernel_rfl
theorem Bdi{b:P}{n:Nat}{t:Bool}{K:AV→Prop}(h:1≤n):Dj 1 0 (.slice b 0 n 1 t) K=K (.ptr b 0):=by
 show(Bool.rec Am (fN (Nat.add 0 (Nat.mul 0 1)) fun q=>K (.ptr b q)) (An (Nat.ble (Nat.add 0 1) n) (Nat.beq 1 1)):Prop)=_
 rw[Nat.ble_eq_true_of_le (show Nat.add 0 1≤n by show 0+1≤n;omega)]
 rfl
theorem St{l:List AV}{K:List AV→Prop}:asG (.agg l) K=K l:=rfl
theorem Bfc{K:Prop}:chk true K=K:=rfl
theorem Bkr(s:List UInt8)(hl:s.length≤1099511627776):Pure PP G h0 265 [S s] (S s):=by
 refine A83 (n:=1) Bw (Bja ?_)
 unfold Ac1
 rw[Lg]
 refine Ap (fun e=>?_) (fun e=>?_)
 · have e:s.length=0:=of_decide_eq_true e
   have:s=[]:=List.eq_nil_of_length_eq_zero e
   subst this;rfl
 · have e:¬s.length=0:=of_decide_eq_false e
   rw[Bi0,Nat.ble_eq_true_of_le (Nat.le_refl _),Nat.ble_eq_true_of_le hl,Nat.ble_eq_true_of_le (show Nat.mul s.length 1≤140737488355328 by show s.length*1≤_;omega)]
   show oK (some (.slice h0.next 0 s.length 1 (Nat.beq s.length s.length),h0.new (.row (Bg (He [.int .u8 (.ofNat 0)] s.length) 0 .e) (Nat.mul s.length 1) 0 TB true))) _
   rw[Ac,cp9]
   have ha:(h0.new (.row (Bg (He [.int .u8 (.ofNat 0)] s.length) 0 .e) (Nat.mul s.length 1) 0 TB true)).at h0.next=.row (Bg (He [.int .u8 (.ofNat 0)] s.length) 0 .e) (Nat.mul s.length 1) 0 TB true:=Bs _ _
   generalize h0.new (.row (Bg (He [.int .u8 (.ofNat 0)] s.length) 0 .e) (Nat.mul s.length 1) 0 TB true)=h at ha ⊢
   generalize Bg (He [.int .u8 (.ofNat 0)] s.length) 0 .e=t at ha
   have ec:Vw (.slice h0.next 0 s.length 1 (Nat.beq s.length s.length)) (S s) h TB ei8=some (.int .i64 (.ofNat s.length),h.put h0.next (.row (Bg (ubs s) 0 t) (Nat.mul s.length 1) 0 TB true)):=by
    show(Option.rec none (fun p=>Bool.rec none (Bool.rec (Ae9 s.length (h.write h0.next 0 (Mh (Nat.mul s.length 1) p.2))) (Ae9 p.1 (h.write h0.next 0 p.2)) (Nat.ble p.1 s.length)) (Nat.beq 1 1)) (Ev h 1 (S s)):Option (AV×H))=_
    rw[Ace]
    show(Bool.rec (Ae9 s.length (h.write h0.next 0 (Mh (Nat.mul s.length 1) (ubs s)))) (Ae9 s.length (h.write h0.next 0 (ubs s))) (Nat.ble s.length s.length):Option (AV×H))=_
    rw[Nat.ble_eq_true_of_le (Nat.le_refl _)]
    show Ae9 s.length (h.write h0.next 0 (ubs s))=_
    have hw:h.write h0.next 0 (ubs s)=some (h.put h0.next (.row (Bg (ubs s) 0 t) (Nat.mul s.length 1) 0 TB true)):=by
     unfold Hp.write Hp.Gr
     rw[ha]
     show Wc h h0.next 0 (ubs s) none some t (Nat.mul s.length 1) 0 TB true=_
     unfold Wc
     rw[Dl,show(ubs s).length=s.length by simp[ubs],show Nat.ble (Nat.add 0 s.length) (Nat.mul s.length 1)=true from Nat.ble_eq_true_of_le (by show 0+s.length≤s.length*1;omega)]
     show Kk (Bg (ubs s) 0 t) (fun t=>h.Sa h0.next (.row t (Nat.mul s.length 1) 0 TB true) some)=_
     rw[Jr,Nt]
    rw[hw];rfl
   rw[ec,Ac,Au]
   rw[Bdi (by omega),Ri,A0e]
   have e2:Nc env (.ptr h0.next 0) (Bt (.int .i64 (Int.ofNat s.length))) (h.put h0.next (.row (Bg (ubs s) 0 t) (Nat.mul s.length 1) 0 TB true))=(Bool.rec (Agl env h0.next 0 s.length (h.put h0.next (.row (Bg (ubs s) 0 t) (Nat.mul s.length 1) 0 TB true)) (Ej ((h.put h0.next (.row (Bg (ubs s) 0 t) (Nat.mul s.length 1) 0 TB true)).at h0.next))) (some (.str 0 0,h.put h0.next (.row (Bg (ubs s) 0 t) (Nat.mul s.length 1) 0 TB true))) (Nat.beq s.length 0):Option (AV×H)):=rfl
   have e3:Nat.beq s.length 0=false:=by rw[Fy];exact decide_eq_false e
   rw[e2,e3,Dd]
   show oK (Bool.rec none (Po _ (Fa (Cg (Bg (ubs s) 0 t) s.length 0))) (An (isByte env TB) (An (Nat.ble (Nat.add 0 s.length) (Nat.mul s.length 1)) (Nat.ble s.length (intMax .i64)))):Option (AV×H)) _
   rw[isB,Nat.ble_eq_true_of_le (show Nat.add 0 s.length≤Nat.mul s.length 1 by show 0+s.length≤s.length*1;omega),Nat.ble_eq_true_of_le (show s.length≤intMax .i64 by show s.length≤9223372036854775807;omega),(Dx.new s t).get]
   show oK (Po _ (Fa (ubs s))) _
   rw[Abk,Ac,De]
theorem b98(l c l' c':Nat)(h:H):Ax env (env.ty 365) [(0,(.str l c)),(1,(.str l' c')),(2,cE 0)] h=some (.agg [.str l c,.str l' c',cE 0],h):=by kernel_rfl
theorem Bku{fn s:List UInt8}{h:H}{k:KV}(he:Ky h)(hl:s.length≤1099511627776)(hk:∀h' p,h.next.nat≤h'.next.nat→(∀c,c.nat<h.next.nat→h'.at c=h.at c)→k (.ptr p 0) h'):W1 (.func 224) [S fn,S s] h k:=by
 refine A86 (n:=1) Bw (Bjd ?_)
 unfold Ac5
 show ld1 (.ptr (pOf 6) 0) h _
 refine Bce he.2.1 (by decide) ?_
 refine Dh (Bkr s hl) ?_
 rw[De]
 show ld1 (.ptr (pOf 6) 0) h _
 refine Bce he.2.1 (by decide) ?_
 rw[show∀A:Prop,eqC (cE 0) (cE 0) A=A from fun A=>by kernel_rfl,b98,Ac]
 rw[St,show Nat.ble 1 (len [S fn,S s,cE 0])=true from rfl,Bfc]
 refine Bo ?_
 exact hk _ _ (by rw[Aw];omega) fun c hc=>Gw hc
theorem Ain {F : FuncId} {fn : Func} {c : Code} (hf : PP.funcs[F]? = some fn) (hb : fn.body = some c) (hname : (fn.name == "runtime.NumGoroutine") = false) (vargs : Array Value) (w : World) : (callFunc F vargs).run PP w = .ok (.enter F vargs) w := by
 unfold callFunc
 rw[Aa (show program.run PP w=.ok PP w from rfl),hf]
 simp only[hname,hb,Bool.false_eq_true,if_false]
 rfl
theorem Bk2{fn s:List UInt8}{base bits:Int}{h:H}{k:KV}(hg:W1 (.func 224) [S fn,S s] h fun v h'=>∃p,v=.ptr p 0∧k (.iface 306 (.ptr p 0)) h'):W1 (.func 174) [S fn,S s,.int .i64 base,.int .i64 bits,.iface 304 (.int .i64 1)] h k:=by
 intro μ w fn' vargs sim gl hfn hv
 have hfn':fn'=.func 174:=by cases fn'<;>simp only[FnR] at hfn<;>first|(cases hfn;rfl)|cases hfn
 obtain⟨v0,vs0,e0,⟨f0,rfl,hf0⟩,v1,vs1,rfl,⟨f1,rfl,hf1⟩,v2,vs2,rfl,hv2,v3,vs3,rfl,hv3,v4,vs4,rfl,⟨y,rfl,hy⟩,h5⟩:=hv
 have hv2:v2=.int .i64 base:=hv2
 have hv3:v3=.int .i64 bits:=hv3
 have hy:y=.int .i64 1:=hy
 have h5:vs4=[]:=h5
 subst hv2 hv3 hy h5
 have hva:vargs=#[.string f0,.string f1,.int .i64 base,.int .i64 bits,.iface 304 (.int .i64 1)]:=by apply Array.ext';simpa using e0
 subst hva
 refine .inl ⟨174,hfn',.inr ⟨Ain Proofs.Tryz.func174 rfl (by kernel_rfl) _ _,?_⟩⟩
 rcases hg μ w (.func 224) #[.string f0,.string f1] sim gl rfl ⟨_,_,rfl,⟨f0,rfl,hf0⟩,_,_,rfl,⟨f1,rfl,hf1⟩,rfl⟩ with⟨f,hf,hh⟩|⟨l,F',tmps,qs,bd,e,_⟩
 case inr=>cases e
 cases hf
 have he:=Ain Proofs.Tryz.func224 rfl (by kernel_rfl) #[.string f0,.string f1] w
 rcases hh with⟨v,w',μ',av,h',h1,_⟩|⟨_,h2⟩
 · rw[he] at h1;cases h1
 · refine(Proofs.Tryz.Bav (Q:=fun a w'=>∃μ' p h',Sim μ' h' w'∧Cw μ h w μ' h' w'∧VR μ' (.ptr p 0) (.pointer (some a))∧k (.iface 306 (.ptr p 0)) h') f0 f1 base bits w (h2.mono ?_)).mono ?_
   · rintro e w' ⟨v,μ',av,h',rfl,h3,h4,h5,p,rfl,h6⟩
     have h5':=h5
     obtain⟨l,hl,rfl⟩:=h5
     exact⟨_,rfl,μ',p,h',h3,h4,h5',h6⟩
   · rintro e w' ⟨a,rfl,μ',p,h',h3,h4,h5,h6⟩
     exact⟨_,μ',.iface 306 (.ptr p 0),h',rfl,h3,h4,⟨_,rfl,h5⟩,h6⟩
end Go.Den
