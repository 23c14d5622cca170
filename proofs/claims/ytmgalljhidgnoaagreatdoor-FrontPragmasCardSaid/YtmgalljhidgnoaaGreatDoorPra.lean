/-
 Proof.
-/
import Derived.Test.YtmgalljhidgnoaaGreatDoorFil
import Derived.Test.YtmgalljhidgnoaaGreatDoorLxb
open Int renaming ofNat → vJ
open Nat renaming zero_le → vF, not_lt_zero → vH, succ_pos → yG, lt_irrefl → yd, lt_succ_self → zh
open List renaming getD_eq_getElem?_getD → vM, length_cons → l6, length_drop → yt, drop_succ_cons → zi, takeWhile_cons → yD, mem_cons_of_mem → xK, cons_append → xU, mem_cons_self → yS, drop_drop → yC, drop_append_of_le_length → zj, mem_of_mem_drop → zk
open Bool renaming or_true → zl, true_or → zm, or_false → zn
namespace Go.Den
open Go.RowKit
open Go.Lx (Rn AA BQ)
set_option maxRecDepth 100000
theorem Ahb(a b c d g:P)(h f:Int)(i:H):AF env (env.ty NK) [(0,.ptr a 0),(1,.agg [.Af,.int .i64 h,.int .i64 f]),(2,.agg [D9,ET]),(3,.ptr b 0),(4,.ptr c 0),(6,.map d),(7,.map g)] i=
 some (.agg [.ptr a 0,.Af,.int .i64 h,.int .i64 f,D9,ET,.ptr b 0,.ptr c 0,.Af,.Af,.Af,.Af,.bool false,.map d,.map g,.int .i64 (vJ 0)],i):=by kernel_rfl
theorem ZY{a f:Int}{b:Prop}(c:b):BE (.agg [.Af,.int .i64 a,.int .i64 f]) (.agg [.Af,.int .i64 a,.int .i64 f]) b:=aM (λd g=>by
 simp only[List.mem_cons,List.not_mem_nil,or_false] at g;rcases g with rfl|rfl|rfl
 · exact .inr (.inr (.inr (.inl rfl)))
 · exact .inr (.inl ⟨_,_,rfl⟩)
 · exact .inr (.inl ⟨_,_,rfl⟩)) c
theorem uy{a:H}{b f:Nat}(c:1≤b)(d:b≤100)(g:f≤200000){h:KV}(i:∀j,AP a j→h (.bool true) j):W1 (.func 10) [.agg [.Af,.int .i64 (vJ b),.int .i64 (vJ f)]] a h:=by
 refine w10 (n:=1) AJ (cY ?_);unfold W0;rw[CB];refine CA (by simp) ?_;refine newRow (e:=TCg) (cs:=[.Af,.int .i64 (vJ b),.int .i64 (vJ f)]) rfl λk l m n=>?_;have D1:∀{K:Int→Prop},K (vJ b)→(Ac 1 (.ptr a.next 0) λv=>Z v k λv=>Ar .i64 v K):=λo=>by rw[Ae];refine n.Z (j:=1) (by show 1<3;decide) ?_;show Ar .i64 (.int .i64 (vJ b)) _;rw[AG];exact o
 have D2:∀{K:Int→Prop},K (vJ f)→(Ac 2 (.ptr a.next 0) λv=>Z v k λv=>Ar .i64 v K):=λo=>by rw[Ae];refine n.Z (j:=2) (by show 2<3;decide) ?_;show Ar .i64 (.int .i64 (vJ f)) _;rw[AG];exact o
 refine D1 ?_;rw[Gc,decide_eq_true c];refine Dm (λ_=>D1 ?_) (λe=>by cases e);rw[Gc,decide_eq_true d];refine Dm (λ_=>D2 ?_) (λe=>by cases e);rw[Gc,decide_eq_true (vF f)];refine Dm (λ_=>D2 ?_) (λe=>by cases e);rw[Gc,decide_eq_true g];exact i k l
theorem gx{e:TypeId}{sz lo b:Nat}{c:H}{v:U}{d:List (List U)}(f:BJ e sz lo c v d)(g:b≤lo):BJ e sz b c v d:=by
 rcases f with e|⟨q,t,h,i,e,a,f,j,k⟩
 · exact .inl e
 · exact .inr ⟨q,t,h,i,e,by omega,f,j,k⟩
theorem fj{b:H}{c d g:P}{h:List Fl}{i j:List UInt8}{k f N0:Nat}{Q:List (List U)→List (List U)→Bool→Nat→Prop}(LT:KH i (Hv i j) N0 f Q)(l:G≤b.next.nat)(m:JT j=true)
 (tb:Hx b c d g h) (n:DA h i=some j) (p:j.length≤2048) (r:i.length≤1000) (s:1≤k) (u:k≤100) (w:f≤200000) {y:KV}
 (l:∀d g h j a0 a1 a2 a3 a4,AP b d→BJ Ci 8 b.next.nat d g a1→BJ CC 4 b.next.nat d h a2→Q a1 a2 a3 a4→j.one=true→a0.one=true→y (.agg [g,h,j,a0,.bool a3]) d):
 W1 (.func 14) [.ptr c 0,S i,.agg [.Af,.int .i64 (vJ k),.int .i64 (vJ f)],.agg [D9,ET]] b y:=by
 have g:∀{a h:P},a.nat≠h.nat→a≠h:=λq e=>q (by rw[e]);refine w14 (n:=1) AJ (WW ?_);unfold VU;rw[CB];refine CA (by simp) ?_;refine newRow (e:=TCg) (cs:=[.Af,.int .i64 (vJ k),.int .i64 (vJ f)]) rfl λy a5 a6 a7=>?_;rw[CB];refine CA (by simp) ?_;refine newRow (e:=THk) (cs:=[D9,ET]) rfl λa6 a8 a9 b0=>?_;refine newRow (e:=TRs) (cs:=[.Af,.Af,.Af,.Af,.bool false]) rfl λa9 b1 b2 r3=>?_;have a9:=(a5.trans a8).trans b1;refine c33 (tb.ext a9) i λv _=>?_;rw[n,Dw,Dt];show Be (.bool true) _;rw[AL];refine F7 (λ_=>?_) (λe=>by cases e);have b2:=a7.ext (a8.trans b1) (by omega);have a5:=b0.ext b1 (by omega);refine b2.A3 (o:=0) (ds:=[.Af,.int .i64 (vJ k),.int .i64 (vJ f)]) rfl rfl (by simp) ?_;refine uy s u w λa7 a8=>?_;have s:=a8.1;rw[AL];refine AR rfl ?_;have u:=b2.ext a8 (by omega);have w:=a5.ext a8 (by omega);refine u.A3 (o:=0) (ds:=[.Af,.int .i64 (vJ k),.int .i64 (vJ f)]) rfl rfl (by simp) ?_;refine w.A3 (o:=0) (ds:=[D9,ET]) rfl rfl (by simp) ?_;rw[Ae];refine u.Z (j:=2) (by show 2<3;decide) ?_;show Ar .i64 (.int .i64 (vJ f)) _;rw[AG];have s:∀{d:H}{b0:Prop},AP a7 d→b0→(A3 3 (.ptr b.next 0) d λb1=>BE b1 (.agg [.Af,.int .i64 (vJ k),.int .i64 (vJ f)])<|A3 2 (.ptr y.next 0) d λb2=>BE b2 (.agg [D9,ET])<|Z (.ptr b.next (0+2)) d λa5=>Ar .i64 a5 λb1=>BE (.int .i64 b1) (.int .i64 (vJ f)) b0):=λ{d b0} x b2=>by have d:=u.ext x (by omega);have a5:=w.ext x (by omega);refine d.A3 (o:=0) (ds:=[.Af,.int .i64 (vJ k),.int .i64 (vJ f)]) rfl rfl (by simp) (ZY ?_);refine a5.A3 (o:=0) (ds:=[D9,ET]) rfl rfl (by simp) (ic ?_);refine d.Z (j:=2) (by show 2<3;decide) ?_;show Ar .i64 (.int .i64 (vJ f)) _;rw[AG];exact Aqy b2
 refine BX ?_;have d:AP a7 (a7.new (.map [] 0)):=.new;have b1:(a7.new (.map [] 0)).next.nat=a7.next.nat+1:=Bd;have b0:(a7.new (.map [] 0)).at a7.next=.map [] 0:=AS _ _;generalize a7.new (.map [] 0)=h4 at d b1 b0 ⊢;refine s d ?_;refine BX ?_;have a5:AP h4 (h4.new (.map [] 0)):=.new;have b2:(h4.new (.map [] 0)).next.nat=h4.next.nat+1:=Bd;have b1:(h4.new (.map [] 0)).at h4.next=.map [] 0:=AS _ _;generalize h4.new (.map [] 0)=h5 at a5 b2 b1 ⊢;refine s (d.trans a5) ?_;refine c34 λb2 b3 b4 b5 b6 b7 b8 b9 c0 c1=>?_;refine s ((d.trans a5).trans b5) ?_;refine c35 λs b2 b4 b8 F1 F2=>?_;have c0:=((d.trans a5).trans b5).trans b4;refine(u.ext c0 (by omega)).A3 (o:=0) (ds:=[.Af,.int .i64 (vJ k),.int .i64 (vJ f)]) rfl rfl (by simp) (ZY ?_);refine(w.ext c0 (by omega)).A3 (o:=0) (ds:=[D9,ET]) rfl rfl (by simp) (ic ?_);rw[Ahb,Ad,CB];refine CA (by simp) ?_;refine newRow (e:=NK) (cs:=Mo c .Af (.int .i64 (vJ k)) (.int .i64 (vJ f)) D9 ET b3 b2 .Af .Af .Af .Af false a7.next h4.next 0) rfl λd u w r8=>?_;have w:AP b d:=((a9.trans a8).trans c0).trans u;have b:=b5.1;have b:=b4.1;have A8:Ct d h4.next []:=by unfold Ct;rw[((b5.trans b4).trans u).2 _ (by omega)];exact b1
 have S8:Ct d a7.next []:=by unfold Ct;rw[(((a5.trans b5).trans b4).trans u).2 _ (by omega)];exact b0
 refine Agi LT (by omega) m (tb.ext w) n p r r8 (b6.ext (b4.trans u) b9) (by rw[(b4.trans u).2 _ c1];exact b7) (b8.ext u F2) A8 S8 (g (by omega)) (g (by omega)) (g (by omega)) (by omega) (by omega) (by omega) (by omega) (by omega) (by omega) λb m d9 L9 a1 a2 a3 a4 f9 K9 n p S9 A9 r q9=>?_;have a9:=f9.1;have b1:∀a5,a5.nat<d.next.nat→a5≠b2→a5≠h4.next→a5≠s.next→a5≠a7.next→b.at a5=d.at a5:=λa5 b5 a h k e=>f9.2 a5 b5 λq=>by
  rcases q with q|q|q|q
  · exact a q
  · exact h q
  · exact k q
  · exact e q
 have Q9:AH b a6.next TRs [.Af,.Af,.Af,.Af,.bool false]:=(r3.ext ((a8.trans c0).trans u) (by omega)).of (b1 _ (by omega) (g (by omega)) (g (by omega)) (g (by omega)) (g (by omega)));rw[Aj,Ad,Ae];refine K9.Z (j:=13) (by show 13<16;decide) ?_;refine c38 λu b0 b4 cK b6 u10=>?_;have S10:Ct u a7.next (inc i []):=by unfold Ct;rw[b4.2 _ (by omega)];exact S9
 have u:DI (inc i []) 1:=DI.nil.inc (by omega);refine NV S10 u (by decide) cK λi j b9 c1 b7=>?_;have u:=b4.trans b9;have b8:=u.1;have K11:=K9.ext u (by omega);have a9:j.one=true:=by
  rcases b7 with⟨e,_⟩|⟨q,o,a5,a6,h,e,_⟩
  · rw[e];rfl
  · rw[e];rfl
 rw[Aj,Ad,Ae,Ae];refine K11.BC (j:=10) (cs':=Mo c .Af (.int .i64 (vJ k)) (.int .i64 (vJ f)) D9 ET b3 b2 m d9 j .Af a3 a7.next h4.next 0) (by show 10<16;decide) a9 rfl λa8 c0 f12 K12=>?_;have b0:a8.next.nat=i.next.nat:=by rw[c0]
 rw[Aj,Ad,Ae];refine K12.Z (j:=14) (by show 14<16;decide) ?_;refine c38 λi b6 c1 b4 b9 u13=>?_;have A13:Ct i h4.next L9:=by unfold Ct;rw[c1.2 _ (by omega),f12 _ (g (by omega)),u.2 _ (by omega)];exact A9
 obtain⟨i,b8,b7⟩:=r;refine NV A13 b7 b8 b4 λi a0 r a8 b0=>?_;have c0:=c1.trans r;have r:=c0.1;have K14:=K12.ext c0 (by omega);have r:a0.one=true:=by
  rcases b0 with⟨e,_⟩|⟨q,o,a5,a6,h,e,_⟩
  · rw[e];rfl
  · rw[e];rfl
 rw[Aj,Ad,Ae,Ae];refine K14.BC (j:=11) (cs':=Mo c .Af (.int .i64 (vJ k)) (.int .i64 (vJ f)) D9 ET b3 b2 m d9 j a0 a3 a7.next h4.next 0) (by show 11<16;decide) r rfl λc k f15 K15=>?_;have b6:c.next.nat=i.next.nat:=by rw[k]
 rw[Aj,Ad,Ae];refine K15.A3 (o:=8) (ds:=[m,d9,j,a0,.bool a3]) rfl rfl (by simp) ?_;have ZL:∀a5,a5.nat<b.next.nat→a5≠s.next→c.at a5=b.at a5:=λa5 b5 y=>by rw[f15 a5 y,c0.2 a5 (by omega),f12 a5 y,u.2 a5 b5]
 have Q15:=Q9.of (ZL _ (by omega) (g (by omega)));refine Q15.CV (o:=0) (ds:=[m,d9,j,a0,.bool a3]) (cs':=[m,d9,j,a0,.bool a3]) rfl (by decide) (by simp) rfl λi k f16 Q16=>?_;have s:i.next.nat=c.next.nat:=by rw[k]
 refine Q16.A3 (o:=0) (ds:=[m,d9,j,a0,.bool a3]) rfl rfl (by simp) ?_;have kp:∀{e:TypeId}{sz:Nat}{v:U}{u:List (List U)},BJ e sz d.next.nat b v u→BJ e sz d.next.nat i v u:=λh=>h.frame (by omega) λa5 b5 y t a6 z c e=>by rw[f16 a5 (g (by omega)),ZL a5 b5 (g (by omega))]
 have s:=w.1;refine l i m d9 j a0 a1 a2 a3 a4 ⟨by omega,λa5 b5=>?_⟩ (gx (kp n) s) (gx (kp p) s) q9 a9 r;rw[f16 a5 (g (by omega)),ZL a5 (by omega) (g (by omega)),b1 a5 (by omega) (g (by omega)) (g (by omega)) (g (by omega)) (g (by omega)),w.2 a5 b5]
theorem Aqw{a:H}{b c d:P}{g:List Fl}{nm h:List UInt8}{i f N0:Nat}{Q:List (List U)→List (List U)→Bool→Nat→Prop}(LT:KH nm (Hv nm h) N0 f Q)(j:G≤a.next.nat)(k:JT h=true)
 (tb:Hx a b c d g) (l:DA g nm=some h) (m:h.length≤2048) (n:nm.length≤1000) (o:1≤i) (p:i≤100) (r:f≤200000) {s:KV}
 (u:∀w x y j c d g h a0,AP a w→BJ Ci 8 a.next.nat w x d→BJ CC 4 a.next.nat w y g→Q d g h a0→j.one=true→c.one=true→s (.agg [x,y,j,c,.bool h]) w):
 W1 (.func 6) [.ptr b 0,S nm,.agg [.Af,.int .i64 (vJ i),.int .i64 (vJ f)]] a s:=by
 refine w6 (n:=1) AJ (g6 ?_);unfold iI;rw[CB];refine CA (by simp) ?_;refine newRow (e:=TCg) (cs:=[.Af,.int .i64 (vJ i),.int .i64 (vJ f)]) rfl λw a b s=>?_;refine newRow (e:=TRs) (cs:=[.Af,.Af,.Af,.Af,.bool false]) rfl λb w a1 a2=>?_;refine(s.ext w (by omega)).A3 (o:=0) (ds:=[.Af,.int .i64 (vJ i),.int .i64 (vJ f)]) rfl rfl (by simp) ?_;rw[Awt,Ad];have s:=a.trans w;refine fj LT (by omega) k (tb.ext s) l m n o p r λi x y j c d g h a0 a w a1 q a3 a4=>?_;have k:=a.1;refine(a2.ext a (by omega)).CV (o:=0) (ds:=[x,y,j,c,.bool h]) (cs':=[x,y,j,c,.bool h]) rfl (by decide) (by simp) rfl λl m n o=>?_;refine o.A3 (o:=0) (ds:=[x,y,j,c,.bool h]) rfl rfl (by simp) ?_;have p:l.next.nat=i.next.nat:=by rw[m]
 have kp:∀{e:TypeId}{sz:Nat}{v:U}{M:List (List U)},BJ e sz b.next.nat i v M→BJ e sz b.next.nat l v M:=λr=>r.frame (by omega) λk o p t b z i e=>n k λq=>by rw[q] at p;omega
 exact u l x y j c d g h a0 ((s.trans a).Gr (by omega) m n) (gx (kp w) (by omega)) (gx (kp a1) (by omega)) q a3 a4
end Go.Den
namespace Go.Den
open Go.RowKit
open Go.Lx (Rn AA BQ Bi Co El Ih Dp DO Gg IP HA EG Ey Cs Np EI)
set_option maxRecDepth 100000
def Pl2(s:List UInt8):Prop:=∀x∈s,x≠63∧x≠92
theorem ZP{a:List UInt8}(b:Pl2 a):Cm a=EM 0 a:=by unfold Cm;rw[UR a 0 λx c=>(b x c).1,iW _ λx c=>(b _ (ur c)).2]
theorem mU{a:List UInt8}(b:Pl2 a)(c:a=[]∨a.getLast? =some 10):BQ a=EM 0 a:=by
 have e:=ZP b;unfold Cm at e;unfold BQ;rw[e,if_neg];rintro⟨d,f⟩;rcases c with c|c
 · exact d c
 · have:((EM 0 a).getLast?.map (·.1))=(AA (EM 0 a)).getLast? :=by unfold AA;rw[List.getLast?_map]
   rw[this,Jm,c] at f;exact f rfl
theorem mQ{a:List UInt8}{j:Nat}(b:j<a.length):(EM 0 a)[j]? =some (a[j],j,j+1):=by have c:=Z6 a 0 j b;rwa [Nat.zero_add] at c
theorem Afn{a:List UInt8}{j:Nat}(b:j<a.length):El (EM 0 a) j=j:=by unfold El;rw[vM,mQ b];rfl
theorem Azb{a:List UInt8}{j:Nat}(b:j<a.length):Ih (EM 0 a) j=j+1:=by unfold Ih;rw[vM,mQ b];rfl
def DK(x:UInt8):Bool:=decide (97≤x.toNat)&&decide (x.toNat≤122)
theorem PA{x:UInt8}(h:DK x=true):Go.Lx.BZ x=true:=by unfold DK at h;unfold Go.Lx.BZ;rw[h];rfl
theorem Et{x:UInt8}(a:DK x=true)(n:UInt8)(b:DK n=false):x≠n:=λe=>by rw[e,b] at a;cases a
def Gb(s:List UInt8):Prop:=∀x∈s,DK x=true∨x=32
def Ca:List UInt8→Nat
 |[]=>0
 |x::r=>if DK x=true then Ca r+1 else 0
theorem La:∀s:List UInt8,Ca s≤s.length
 |[]=>Nat.le_refl _
 |x::r=>by
  have:=La r;unfold Ca;split
  · simp only[l6];omega
  · exact vF _
def E2:Bool→Nat→List UInt8→List (List UInt8×Bool)
 |_,0,_=>[]
 |_,_+1,[]=>[]
 |a,k+1,x::r=>if x=32 then E2 true k r else((x::r).take (Ca r+1),a)::E2 false k (r.drop (Ca r))
theorem LW:∀(a b:Nat)(c:List UInt8)(d:Bool),c.length<a→c.length<b→E2 d a c=E2 d b c
 |0,_,_,_,f,_=>absurd f (vH _)
 |_+1,0,_,_,_,f=>absurd f (vH _)
 |a+1,b+1,[],_,_,_=>rfl
 |a+1,b+1,x::r,d,f,g=>by simp only[l6] at f g;have l:=yt (i:=Ca r) (l:=r);unfold E2;rw[LW a b r true (by omega) (by omega),LW a b (r.drop (Ca r)) false (by omega) (by omega)]
theorem Akd(k:Nat)(w:List UInt8)(a b:Bool):Ch true (E2 a k w)=Ch true (E2 b k w):=by
 cases k with
 |zero=>rfl
 |succ k=>
  cases w with
  |nil=>rfl
  |cons x r=>
   unfold E2;split
   · rfl
   · rfl
def DH:List UInt8→Nat
 |[]=>0
 |x::r=>if x=32 then DH r+1 else 0
theorem Qh:∀s:List UInt8,DH s≤s.length
 |[]=>Nat.le_refl _
 |x::r=>by
  have:=Qh r;unfold DH;split
  · simp only[l6];omega
  · exact vF _
theorem UX:∀(a:List UInt8)(b:Nat)(c:Bool),a.length<b→E2 c b a=E2 (c||decide (0<DH a)) b (a.drop (DH a))
 |[],b,c,_=>by
  cases b with
  |zero=>rfl
  |succ b=>rfl
 |x::r,0,_,d=>absurd d (vH _)
 |x::r,b+1,c,d=>by
  simp only[l6] at d;have f:=Qh r;by_cases e:x=32
  · subst e;have g:DH (32::r)=DH r+1:=rfl;have l:=yt (i:=DH r) (l:=r);have h:E2 c (b+1) (32::r)=E2 true b r:=rfl;rw[g,h,UX r b true (by omega),zi,decide_eq_true (yG _),zl,zm,LW b (b+1) _ true (by omega) (by omega)]
  · have g:DH (x::r)=0:=by unfold DH;rw[if_neg e]
    rw[g,List.drop_zero,decide_eq_false (yd _),zn]
theorem sQ:∀{s t:List UInt8},(∀b,t.head? =some b→Go.Lx.BZ b=false∧Go.Lx.isDigit b=false)→Gb s→IP (s++t)=Ca s
 |[],t,c,_=>by
  unfold IP;cases t with
  |nil=>rfl
  |cons b t=>obtain⟨a,d⟩:=c b rfl;rw[List.nil_append,yD,if_neg (by rw[a,d];decide)];rfl
 |x::s,t,c,f=>by
  have g:=sQ (s:=s) c λb h=>f b (xK _ h);unfold IP at g ⊢;rw[xU,yD];unfold Ca;rcases f x yS with e|e
  · rw[if_pos (by rw[PA e];rfl),if_pos e,l6,g]
  · subst e;rw[if_neg (by decide),if_neg (by decide)];rfl
theorem XJ{x:UInt8}{s t:List UInt8}(a:DK x=true)(b:∀c,t.head? =some c→Go.Lx.BZ c=false∧Go.Lx.isDigit c=false∧c≠34∧c≠39)(d:Gb s):EG (x::(s++t))=none:=by
 have f:∀c,(s++t).head? =some c→c≠34∧c≠39∧c≠56:=λc g=>by
  cases s with
  |nil=>have h:=b c g;exact⟨h.2.2.1,h.2.2.2,λe=>by rw[e] at h;exact absurd h.2.1 (by decide)⟩
  |cons z s=>
   have e:z=c:=by simpa using g
   subst e;rcases d z yS with h|h
   · exact⟨Et h 34 (by decide),Et h 39 (by decide),Et h 56 (by decide)⟩
   · subst h;decide
 have i:Cs (x::(s++t)) 1≠34∧Cs (x::(s++t)) 1≠39∧Cs (x::(s++t)) 1≠56:=by
  rw[Avo];cases j:s++t with
  |nil=>decide
  |cons z r=>exact f z (by rw[j];rfl)
 have a0:Cs (x::(s++t)) 0=x:=rfl;unfold EG;rw[a0];rw[if_neg (λe=>e.elim (λe=>Et a 34 (by decide) e) λe=>Et a 39 (by decide) e)];rw[if_neg (λe=>i.2.2 e.2.1),if_neg (λe=>e.2.elim i.1 i.2.1)]
theorem NL{x:UInt8}{s t:List UInt8}(a:DK x=true)(b:∀c,t.head? =some c→Go.Lx.BZ c=false∧Go.Lx.isDigit c=false∧c≠34∧c≠39)(d:Gb s):Go.Lx.B7 (x::(s++t))=(1,1+Ca s,false):=by have a0:Cs (x::(s++t)) 0=x:=rfl;have f:=XJ a b d;unfold Go.Lx.B7;rw[f];show Ey (x::(s++t))=_;unfold Ey;rw[a0,if_pos (PA a)];rw[show(x::(s++t)).drop 1=s++t from rfl,sQ (λc g=>⟨(b c g).1,(b c g).2.1⟩) d]
theorem Di{s:List UInt8}{a:Nat}{x:UInt8}{r:List UInt8}(h:s.drop a=x::r):bt s a=x∧a<s.length∧s.drop (a+1)=r:=by
 have e:bt s a=Cs (s.drop a) 0:=by rw[kQ,Nat.add_zero];rfl
 refine⟨by rw[e,h];rfl,?_,?_⟩
 · apply Classical.byContradiction;intro q;rw[List.drop_eq_nil_of_le (by omega)] at h;cases h
 · rw[←yC,h];rfl
theorem M9{x:UInt8}(h:DK x=true):D8 x=false:=by unfold DK at h;rw[Bool.and_eq_true,decide_eq_true_eq,decide_eq_true_eq] at h;unfold D8;rw[decide_eq_false (by omega),decide_eq_false (by omega),decide_eq_false (show¬x.toNat≤13 by omega)];simp
section
variable{L:List Rn}{s post:List UInt8}
theorem Qi(b:AA L=s):∀(c:List UInt8)(a K:Nat)(d o:Bool),s.drop a=c++10::post→Gb c→c.length<K→(BM L K a d o).1=a+DH c∧(BM L K a d o).2.1=(d||decide (0<DH c))
 |[],a,K,d,o,f,_,_=>by have g:=Di f;rw[Em (.inr (by rw[b];exact g.1))];exact⟨rfl,by rw[show DH []=0 from rfl,decide_eq_false (yd _),zn]⟩
 |x::c,a,0,_,_,_,_,h=>absurd h (vH _)
 |x::c,a,K+1,d,o,f,i,h=>by
  have g:=Di f;have j:a<L.length:=by rw[←Bj,b];exact g.2.1
  simp only[l6] at h;rcases i x yS with e|e
  · have ne:=Et e;rw[GN j (by rw[b,g.1];exact ne 10 (by decide)) (by rw[b,g.1];exact M9 e) (by rw[b,f];unfold EI;rw[if_pos (by show x≠47;exact ne 47 (by decide))])];have k:DH (x::c)=0:=by unfold DH;rw[if_neg (ne 32 (by decide))]
    rw[k];exact⟨rfl,by rw[decide_eq_false (yd _),zn]⟩
  · subst e;rw[LQ j (by rw[b,g.1];decide) (by rw[b,g.1];decide)];obtain⟨l,m⟩:=Qi b c (a+1) K true o g.2.2 (λn p=>i n (xK _ p)) (by omega);have k:DH (32::c)=DH c+1:=rfl;rw[l,m,k,decide_eq_true (yG _),zl,zm];exact⟨by omega,rfl⟩
def Mp(L:List Rn)(x:Nat×Bool):List UInt8×Bool:=(((AA L).drop x.1).take (mL L x.1),x.2)
theorem Aia(b:AA L=s):∀(c:Nat)(d:List UInt8)(a f:Nat)(g:Bool),d.length≤c→s.drop a=d++10::post→Gb d→d.length<f→(Br L f a g).2.1=a+d.length∧(Br L f a g).1.map (Mp L)=E2 g (d.length+1) d:=by
 intro c;induction c with
 |zero=>intro d a f g h i j k;have e:d=[]:=List.eq_nil_of_length_eq_zero (by omega);subst e;obtain⟨f,rfl⟩:∃l,f=l+1:=⟨f-1,by simp only[List.length_nil] at k;omega⟩;have m:=Di i;obtain⟨n,o⟩:=Qi b [] a (L.length+2) g false i j (by show 0<_;omega);unfold Br;rw[n,if_pos (.inr (by rw[b];exact m.1))];exact⟨rfl,rfl⟩
 |succ c p=>
  intro d a f g h i j k;obtain⟨f,rfl⟩:∃l,f=l+1:=⟨f-1,by omega⟩;have t:d.length<L.length+2:=by have:=congrArg List.length i;rw[yt,List.length_append,←b,Bj] at this;omega
  obtain⟨n,o⟩:=Qi b d a (L.length+2) g false i j t;have u:=Qh d;have v:s.drop (a+DH d)=d.drop (DH d)++10::post:=by rw[←yC,i,zj u]
  have w:Gb (d.drop (DH d)):=λy c=>j y (zk c);have h:=yt (i:=DH d) (l:=d);rw[UX d (d.length+1) g (zh _)];unfold Br;rw[n,o];cases k:d.drop (DH d) with
  |nil=>
   rw[k] at v h;have m:=Di v;rw[if_pos (.inr (by rw[b];exact m.1))];refine⟨?_,?_⟩
   · show a+DH d=_;have:([]:List UInt8).length=0:=rfl;omega
   · rfl
  |cons x r=>
   rw[k] at v h w;have m:=Di v;have l:DK x=true:=by
    rcases w x yS with e|e
    · exact e
    · exfalso;have t:∀(i:List UInt8),(i.drop (DH i)).head?≠some 32:=by
       intro i;induction i with
       |nil=>simp[DH]
       |cons z i u=>
        unfold DH;by_cases j:z=32
        · rw[if_pos j,zi];exact u
        · rw[if_neg j];intro q;exact j (by simpa using q)
      exact t d (by rw[k,e];rfl)
   have n:Gb r:=λy c=>w y (xK _ c);have o:a+DH d<L.length:=by rw[←Bj,b];exact m.2.1
   have i:Go.Lx.B7 ((AA L).drop (a+DH d))=(1,1+Ca r,false):=by
    rw[b,v];exact NL (t:=10::post) l (λy c=>by
     have:y=10:=by simpa using c.symm
     subst this;decide) n
   rw[if_neg (λq=>?_),i]
   · have u:=La r;have j:s.drop (a+DH d+(1+Ca r))=r.drop (Ca r)++10::post:=by rw[←yC,v,show 1+Ca r=Ca r+1 by omega,xU,zi,zj u]
     have k:=yt (i:=Ca r) (l:=r);simp only[l6] at h;obtain⟨t,w⟩:=p (r.drop (Ca r)) (a+DH d+(1+Ca r)) f false (by omega) j (λy c=>n y (zk c)) (by omega);refine⟨?_,?_⟩
     · show(Br L f (a+DH d+(1+Ca r)) false).2.1=_;rw[t];omega
     · show Mp L (a+DH d,g||decide (0<DH d))::(Br L f (a+DH d+(1+Ca r)) false).1.map (Mp L)=_;rw[w];have o:Mp L (a+DH d,g||decide (0<DH d))=((x::r).take (Ca r+1),g||decide (0<DH d)):=by unfold Mp mL;rw[i,b,v];show(((x::r)++10::post).take (1+Ca r),_)=_;rw[List.take_append_of_le_length (by simp only[l6];omega),Nat.add_comm]
       rw[o];have u:E2 (g||decide (0<DH d)) (d.length+1) (x::r)=((x::r).take (Ca r+1),g||decide (0<DH d))::E2 false d.length (r.drop (Ca r)):=by show(if x=32 then _ else _)=_;rw[if_neg (Et l 32 (by decide))]
       rw[u,LW d.length ((r.drop (Ca r)).length+1) _ false (by omega) (zh _)]
   · rcases q with q|q
     · omega
     · rw[b,m.1] at q;exact Et l 10 (by decide) q
end
end Go.Den
