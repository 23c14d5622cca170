/-
 Proof.
-/
import Derived.Test.YtmgalljhidgnoaaGreatDoorWlk
open Nat renaming lt_of_lt_of_le → vZ, le_refl → vE, le_trans → vY, lt_irrefl → yd, ble_eq_true_of_le → wY, sub_self → yo
open Int renaming ofNat → vJ
open List renaming append_assoc → vp, take_add_one → yp, getElem?_eq_getElem → wq, length_take → ym, length_append → o7, take_zero → yq, length_drop → yt
namespace Go.Den
open Go.RowKit
set_option maxRecDepth 100000
section
variable{hS h:H}{p:PW}{vl:U}{Lc:List (List U)}{XS:List (List (List U))}{X:List U}{T D:List (List U)}{C:Option (List U)}{st:Bool}{fu:Nat}{L:Cn}
theorem BJ.kp0{h b:H}{v:U}{c:List (List U)}{e d:TypeId}{sz lo f:Nat}(g:BJ e sz lo h v c)(x:Ft d f h b)(i:e≠d):BJ e sz lo b v c:=
 g.frame x.1 λj k _ t l z m a=>x.2 j k (.inr λn o p q r=>i (by rw[a] at r;cases r;rfl))
theorem Kn.kp0{h b:H}{c d:P}{e:TypeId}{lo:Nat}(n:Kn h c d)(x:Ft e lo h b)(f:H2≠e):Kn b c d:=by
 obtain⟨⟨a,g⟩,i⟩:=n;refine⟨⟨a,vZ g x.1⟩,?_⟩;rcases i with i|⟨q,j,i,k,e⟩
 · exact .inl (i.GD x g f)
 · exact .inr ⟨q,j,vZ i x.1,k.GD x g f,by rw[x.2 q i (.inr λl m o p r=>by rw[e] at r;cases r)];exact e⟩
theorem CQ.kpD{a:H}(b:CQ hS h p X C T D st fu L)(c:Dq hS p vl Lc XS)(x:Ft CC hS.next.nat h a):CE (IW p hS) hS a∧AH a p.pX PL X∧AH a p.pF HJ [.int .i64 (vJ fu)]∧Ct a p.pA L∧Kn a p.B p.pA∧∃d,X[5]? =some d∧GI a d C:=by
 refine⟨b.fr.trans ⟨x.1,λf g i=>x.2 f g (.inl ?_)⟩,b.rX.GD x (vZ c.nX b.n) (by decide),b.rF.GD x (vZ c.nF b.n) (by decide),?_,b.kn.kp0 x (by decide),b.cn.elim λd e=>⟨d,e.1,e.2.GD x (by decide) (by decide)⟩⟩
 · by_cases j:f.nat<hS.next.nat
   · exact j
   · exact absurd (.inr (by omega)) i
 · unfold Ct;have k:=b.mA;unfold Ct at k;rw[x.2 _ (vZ c.nA b.n) (.inr λl m n o q=>by rw[k] at q;cases q)];exact k
theorem c63(b:CQ hS h p X C T D st fu L)(c:Dq hS p vl Lc XS)(d:D.length≤1000000){n:Nat}{f:List UInt8}{a g:Int}{i:KV}(j:∀k,CQ hS k p X C T (D++[[.int .i64 (vJ n),S f,.int .i64 a,.int .i64 g]]) st fu L→i (.tuple []) k):W1 (.func 63) [.ptr p.pK 0,.int .i64 (vJ n),.agg [S f,.int .i64 a,.int .i64 g]] h i:=by refine w63 (n:=1) AJ (g63 ?_);unfold Vt;rw[CB];refine CA (by simp) ?_;refine newRow (e:=45) (cs:=[S f,.int .i64 a,.int .i64 g]) rfl λl m o q=>?_;have r:=b.ext c m;obtain⟨s,t,u,v,w⟩:=r.rK;have x:=r.n;rw[Aj,Ad,Ae,Ae];refine u.Z (j:=9) (by show 9<16;decide) ?_;refine q.A3 (o:=0) (ds:=[S f,.int .i64 a,.int .i64 g]) rfl rfl (by simp) ?_;show oK (AF env (env.ty CC) [(0,(.int .i64 (vJ n))),(1,.agg [.str f.length (enc f),.int .i64 a,.int .i64 g])] l) _;rw[dP,Ad,dO,Ad];have y:AP l (l.new (.row (Ai [.int .i64 (vJ n),.str f.length (enc f),.int .i64 a,.int .i64 g] 0 Z52) 4 0 CC true)):=.new;refine(u.ext y (vZ c.nK r.n)).Z (j:=9) (by show 9<16;decide) ?_;show BE t t _;refine C2 (w.n.sl.elim (λe=>.inr (.inr (.inr (.inl e)))) λe=>.inr (.inr (.inr (.inr (.inl e))))) ?_;show oK (AB env .append [31,31] [t,_] _) _;rw[dj];have d:=r.ext c y;have i:=v.ext y;have k:=u.ext y (vZ c.nK r.n);refine VQ (lo:=hS.next.nat) (ds:=[.int .i64 (vJ n),S f,.int .i64 a,.int .i64 g]) (w.ext y) rfl qQ (W2 (by omega)) d.n rfl rfl λo b m k3=>?_;obtain⟨f3,x,q,l,t,v,r⟩:=d.kpD c k3;have u:=k.GD k3 (vZ c.nK d.n) (by decide);rw[Aj,Ad,Ae,Ae];refine u.BC (j:=9) (cs':=p.cells s o st) (by show 9<16;decide) m.one rfl λb f g w=>?_;exact j b ⟨f3.trans ⟨by rw[f];exact vE _,λy _ d=>g y λe=>d (.inl (.inr (.inl e)))⟩,x.of (g _ c.XK),⟨s,o,w,(i.kp0 k3 (by decide)).of f g (u.Fy (by decide)),m.of f g (u.Fy (by decide))⟩,q.of (g _ c.KF.symm),by unfold Ct;rw[g _ c.KA.symm];exact l,t.put f g c.KB.symm u.K8,v,r.1,r.2.of f g (u.WT (by decide) (by decide))⟩
theorem Bdg(b:CQ hS h p X C T D st fu L)(c:Dq hS p vl Lc XS)(d:D.length≤1000000){f:List UInt8}{a g:Int}{i:KV}(j:∀k,CQ hS k p X C T (D++[[.int .i64 (vJ 18),S f,.int .i64 a,.int .i64 g]]) true fu L→i (.tuple []) k):W1 (.func 162) [.ptr p.pK 0,.agg [S f,.int .i64 a,.int .i64 g]] h i:=by refine Alz (n:=1) AJ (Bds ?_);unfold Qk;rw[CB];refine CA (by simp) ?_;refine newRow (e:=45) (cs:=[S f,.int .i64 a,.int .i64 g]) rfl λl m n o=>?_;refine o.A3 (o:=0) (ds:=[S f,.int .i64 a,.int .i64 g]) rfl rfl (by simp) ?_;refine c63 (n:=18) (b.ext c m) c d λq r=>?_;obtain⟨s,t,u,v,w⟩:=r.rK;rw[Aj,Ad,Ae,Ae];refine u.BC (j:=12) (cs':=p.cells s t true) (by show 12<16;decide) rfl rfl λx y i k=>?_;exact j x (r.Bbc c y i k v w)
end
end Go.Den
namespace Go.Den
open Go.RowKit
set_option maxRecDepth 100000
def Ch:Bool→List (List UInt8×Bool)→List UInt8
 |_,[]=>[]
 |f,x::r=>(if !f&&x.2 then[32] else[])++x.1++Ch false r
theorem ai(x:List UInt8×Bool):∀l,Ch false (l++[x])=Ch false l++((if x.2 then[32] else[])++x.1)
 |[]=>by simp[Ch]
 |y::l=>by show(if !false&&y.2 then[32] else[])++y.1++Ch false (l++[x])=(if !false&&y.2 then[32] else[])++y.1++Ch false l++_;rw[ai x l,vp,vp,vp]
theorem aV(x:List UInt8×Bool)(l:List (List UInt8×Bool)):Ch true (l++[x])=Ch true l++((if decide (0<l.length)&&x.2 then[32] else[])++x.1):=by
 cases l with
 |nil=>simp[Ch]
 |cons y l=>show(if !true&&y.2 then[32] else[])++y.1++Ch false (l++[x])=(if !true&&y.2 then[32] else[])++y.1++Ch false l++_;rw[ai x l];simp
def Lf(a:List (List U))(l:List (List UInt8×Bool)):Prop:=a.length=l.length∧∀b (h:b<a.length) (c:b<l.length),∃d f g i j k,a[b]=[d,S l[b].1,.bool l[b].2,f,g,i,j,k]
theorem sy.PX{lo:Nat}{b:P}{h0 a c:H}(x:AP h0 a)(d:h0.next.nat≤lo)(g:h0.next.nat≤b.nat)(f:sy lo b a c):AP h0 c:=
 ⟨vY x.1 f.1,λh i=>by rw[f.2 h (vZ i x.1) (λe=>by subst e;omega) (.inl (by omega)),x.2 h i]⟩
section
variable{h0:H}{v:U}{R:List (List U)}{l:List (List UInt8×Bool)}{b:P}
theorem iz(a:CI 8 h0 v R)(c:Lf R l)(d:l.length≤1000000)(f:∀g,(Ch true (l.take g)).length≤1000000)(h:h0.next.nat≤b.nat){i:KV}(j:∀k,AP h0 k→i (S (Ch true l)) k):
    ∀(m g:Nat){n:H},l.length-g=m→g≤l.length→AP h0 n→Gz h0.next.nat n b (Ch true (l.take g))→(Ll W1 i (2*m+1)).a1 (.ptr b 0) v (vJ l.length) (vJ g) n
  |0,g,n,p,hi,x,r=>by
    have e:g=l.length:=by omega
    subst e;refine jb ?_;unfold NN;rw[Cr,decide_eq_false (yd _)];refine AR rfl ?_;have t:=f l.length;refine gq r (by omega) λk s=>?_;rw[List.take_length];show Bv (S (Ch true l)) _;rw[CR];exact j k (s.PX x (vE _))
  |m+1,g,n,p,hi,x,r=>by
    have u:g<l.length:=by omega
    have w:g<R.length:=by rw[c.1];exact u
    obtain⟨y,k,p,a0,a1,a2,e⟩:=c.2 g w u;have a3:=x.1;have a3:=f g;have a3:=f (g+1);have a4:l.take (g+1)=l.take g++[l[g]]:=by rw[yp,wq u];rfl
    have a5:(l.take g).length=g:=by rw[ym];omega
    have a6:=aV l[g] (l.take g);rw[←a4,a5] at a6;rw[a6,o7,o7] at a3;rw[show 2*(m+1)+1=(2*m+1+1)+1 by omega];refine jb ?_;unfold NN;rw[Cr,decide_eq_true u];refine By rfl (Cy ?_);refine((a.ext x).rd w).elem w λq o _ _ a4=>?_;rw[e] at a4;refine a4.A3 rfl ?_;refine newRow (e:=Ci) (cs:=Fs) rfl λw a5 a4 a7=>?_;refine a7.CV (o:=0) (ds:=[y,S l[g].1,.bool l[g].2,k,p,a0,a1,a2]) (cs':=[y,S l[g].1,.bool l[g].2,k,p,a0,a1,a2]) rfl (by decide) (by show 0+8≤8;decide) rfl λw a4 f3 r3=>?_;have X3:AP n w:=a5.Gr (vE _) a4 f3;have B3:=r.ext X3;have w:=X3.1;have w:∀{a7:H}{a5:List UInt8},AP h0 a7→AH a7 n.next Ci [y,S l[g].1,.bool l[g].2,k,p,a0,a1,a2]→a5++l[g].1=Ch true (l.take (g+1))→Gz h0.next.nat a7 b a5→(Ll W1 i (2*m+1+1)).a2 (.ptr b 0) (.ptr n.next 0) v (vJ l.length) (vJ g) a7:=λ{a7 a5} i k n B4=>by have p:=f (g+1);rw[←n,o7] at p;refine Aka ?_;unfold QD;rw[Ae];refine k.Z (j:=1) (by show 1<8;decide) ?_;show Bv (S l[g].1) _;rw[CR];refine Anz B4 i.1 (by omega) λ_ y B5 f5=>?_;rw[n] at B5;exact Bx (by omega) (iz a c d f h j m (g+1) (by omega) u (f5.PX i (vE _) h) B5)
    refine DR (b:=l[g].2) (λs p=>?_) ?_
    · rw[Ae];refine r3.Z (j:=2) (by show 2<8;decide) ?_;show Be (.bool l[g].2) _;rw[AL];exact p
    · rw[show Ba (vJ 0) (vJ g)=decide (0<g) from Cr _ _];refine Bp (λq=>?_) (λq=>?_)
      · rw[q] at a3 a6;refine cB (x:=32) B3 (by omega) (by omega) λ_ y B5 f5=>?_;refine w (f5.PX (x.trans X3) (vE _) h) (r3.of (f5.2 _ (by rw[a4];omega) (λe=>?_) (.inr (r3.Fy (by decide))))) ?_ B5
        · obtain⟨tb,k,n,_⟩:=r;rw[←e] at n;exact absurd n (yd _)
        · rw[a6,vp];rfl
      · rw[q] at a6;refine w (x.trans X3) r3 ?_ B3;rw[a6];rfl
theorem Bfq{a:H}(b:CI 8 a v R)(c:Lf R l)(d:l.length≤1000000)(f:∀g,(Ch true (l.take g)).length≤1000000){h:KV}(i:∀j,AP a j→h (S (Ch true l)) j):W1 (.func 163) [v] a h:=by refine Ams (n:=2*l.length+1+1) AJ (Bfm ?_);unfold Ql;refine BX ?_;have k:AP a (a.new Is):=.new;have B1:Gz a.next.nat (a.new Is) a.next []:=Gz.new _ _;rw[b.len,c.1];exact iz b c d f (vE _) i l.length 0 (by omega) (Nat.zero_le _) k (by rw[yq];exact B1)
end
end Go.Den
noncomputable section
namespace Go.Den
open Go.RowKit
set_option maxRecDepth 100000
theorem fP{a:H}{b:P}{n:Nat}(r:AH a b HJ [.int .i64 (vJ n)])(c:n≤1000000){d:KV}(f:∀g,g.next=a.next→(∀h,h≠b→g.at h=a.at h)→AH g b HJ [.int .i64 (vJ (n-1))]→d (.bool (decide (1≤n))) g):W1 (.func 161) [.ptr b 0,.int .i64 (vJ 1)] a d:=by
 by_cases i:1≤n
 · rw[decide_eq_true i] at f;exact Aoj r i c f
 have j:n=0:=by omega
 subst j;refine Aaj (n:=2) AJ (Ant ?_);unfold N7;rw[Aol,Gn,AL];rw[UN];refine AR rfl ?_;refine iG ?_;unfold NT;rw[Aj,Ad,Ae];refine Apb r ?_;rw[AG];refine cy (m:=0) (by decide) ?_;rw[lH,Ad,AG,Aj,Ad,Ae];have e:(Bool.rec (nI 0) (vJ 0) (Ba (nI 0) (vJ 0)):Int)=vJ 0:=by kernel_rfl
 rw[e];refine Aky r λg k l m=>?_;rw[AL];refine By rfl ?_;rw[Gc];exact f g k l m
section
variable{hS h:H}{p:PW}{vl:U}{Lc:List (List U)}{XS:List (List (List U))}{T D:List (List U)}{C:Option (List U)}{st:Bool}{fu:Nat}{L:Cn}
theorem CQ.kpT{a:H}{b:List U}(c:CQ hS h p b C T D st fu L)(d:Dq hS p vl Lc XS)(x:Ft Ci hS.next.nat h a):CE (IW p hS) hS a∧AH a p.pX PL b∧AH a p.pF HJ [.int .i64 (vJ fu)]∧Ct a p.pA L∧Kn a p.B p.pA∧∃f,b[5]? =some f∧GI a f C:=by
 refine⟨c.fr.trans ⟨x.1,λg i j=>x.2 g i (.inl ?_)⟩,c.rX.GD x (vZ d.nX c.n) (by decide),c.rF.GD x (vZ d.nF c.n) (by decide),?_,c.kn.kp0 x (by decide),c.cn.elim λf e=>⟨f,e.1,e.2.GD x (by decide) (by decide)⟩⟩
 · by_cases k:g.nat<hS.next.nat
   · exact k
   · exact absurd (.inr (by omega)) j
 · unfold Ct;rw[x.2 _ (vZ d.nA c.n) (.inl d.nA)];exact c.mA
theorem Asl(l c:Nat)(x y z:U)(h:H):AF env (env.ty Ci) [(0,.int .i64 (vJ 7)),(1,.str l c),(3,.agg [x,y,z])] h=some (.agg [.int .i64 (vJ 7),.str l c,.bool false,x,y,z,.bool false,.Af],h):=by kernel_rfl
def bN(c d:List UInt8)(a b:Int):List U:=[.int .i64 (vJ 7),S c,.bool false,S d,.int .i64 a,.int .i64 b,.bool false,.Af]
variable{nm wn fl:List UInt8}{vs vc l1 l2 l3 l4 vr:U}{dl a b:Int}{R:List (List U)}{l:List (List UInt8×Bool)}
theorem Wb(c:CQ hS h p (p.file nm wn vs dl vc l1 l2 l3 l4 fl a b vr) C T D st fu L)(d:Dq hS p vl Lc XS)(f:D.length≤1000000)(g:T.length≤1000000)(i:fu≤1000000)(j:CI 8 h vr R)(av:∀q o n z t,vr=.slice q o n z t→¬IW p hS q∧q.nat<hS.next.nat)(k:Lf R l)(m:l.length≤1000000)(r:∀s,(Ch true (l.take s)).length≤1000000){u:KV}
 (v:1≤fu→∀w,CQ hS w p (p.file nm wn vs dl vc l1 l2 l3 l4 fl a b vr) C (T++[bN (Ch true l) fl a b]) D st (fu-1) L→u (.tuple []) w)
 (h0:fu=0→∀w,CQ hS w p (p.file nm wn vs dl vc l1 l2 l3 l4 fl a b vr) C T (D++[[.int .i64 (vJ 18),S fl,.int .i64 a,.int .i64 b]]) true 0 L→u (.tuple []) w):W1 (.func 111) [.ptr p.pX 0,.int .i64 (vJ 13)] h u:=by
 refine Amu (n:=1) AJ (Bab ?_);unfold QM;rw[DB,DB,DB,DB,DB,DB];refine AR (by decide) (AR (by decide) (AR (by decide) (AR (by decide) (AR (by decide) (By (by decide) ?_)))));obtain⟨y,g,s,u,a0⟩:=c.rK;have g:=c.n;have X:=c.rX;rw[Aj,Ad,Ae];refine X.Z (j:=0) (by show 0<14;decide) ?_;show oK (Ag (.ptr p.pK 0) h) _;rw[Aj,Ad,Ae];refine s.Z (j:=7) (by show 7<16;decide) ?_;show W1 (.func 161) [.ptr p.pF 0,.int .i64 (vJ 1)] h _;refine fP c.rF i λu y g s=>?_;have i:=c.gH d y g s;rw[AL];have X2:=i.rX;refine Bp (λe=>?_) (λe=>?_)
 · have e:fu=0:=by
    have:decide (1≤fu)=false:=by cases q:decide (1≤fu) with
     |true=>rw[q] at e;cases e
     |false=>rfl
    have:=of_decide_eq_false this;omega
   subst e;rw[Aj,Ad,Ae];refine X2.Z (j:=0) (by show 0<14;decide) ?_;rw[Aj,Ad,Ae];refine X2.A3 (o:=10) (ds:=[S fl,.int .i64 a,.int .i64 b]) rfl rfl (by simp) ?_;exact Bdg i d f λc w3=>h0 rfl c w3
 · have e:1≤fu:=by
    have:decide (1≤fu)=true:=by cases q:decide (1≤fu) with
     |true=>rfl
     |false=>rw[q] at e;cases e
    exact of_decide_eq_true this
   obtain⟨s,f,a0,a1,a2⟩:=i.rK;have a3:CI 8 u vr R:=j.DV (X:=λj=>j=p.pF) ⟨by rw[y];exact vE _,λj _ y=>g j y⟩ λq o n z t a4 a5=>(av q o n z t a4).1 (.inl (.inr (.inr (.inl a5))));rw[Aj,Ad,Ae];refine X2.Z (j:=0) (by show 0<14;decide) ?_;rw[Aj,Ad,Ae];refine X2.Z (j:=0) (by show 0<14;decide) ?_;show oK (Ag (.ptr p.pK 0) u) _;rw[Aj,Ad,Ae,Ae];refine a0.Z (j:=8) (by show 8<16;decide) ?_;rw[Aj,Ad,Ae];refine X2.Z (j:=13) (by show 13<14;decide) ?_;rw[Aj,Ad,Ae];refine X2.A3 (o:=10) (ds:=[S fl,.int .i64 a,.int .i64 b]) rfl rfl (by simp) ?_;show W1 (.func 163) [vr] u _;refine Bfq a3 k m r λc g=>?_;rw[CR];have k:∀{w:H}{m:Prop},AP u w→m→(Z (.ptr p.pX (0+0)) w λr=>BE r (.ptr p.pK 0)<|Z (.ptr p.pX (0+0)) w λu=>BE u (.ptr p.pK 0)<|Z (.ptr p.pK (0+8+0)) w λr=>BE r s m):=λ{w m} x u=>by have r:=X2.ext x (vZ d.nX i.n);have w:=a0.ext x (vZ d.nK i.n);refine r.Z (j:=0) (by show 0<14;decide) (Cv (r.Z (j:=0) (by show 0<14;decide) (Cv (w.Z (j:=8) (by show 8<16;decide) ?_))));show BE s s m;exact C2 (a1.n.sl.elim (λe=>.inr (.inr (.inr (.inl e)))) λe=>.inr (.inr (.inr (.inr (.inl e))))) u
   refine k g ?_;refine(X2.ext g (vZ d.nX i.n)).A3 (o:=10) (ds:=[S fl,.int .i64 a,.int .i64 b]) rfl rfl (by simp) ?_;refine aM (λr w=>?_) ?_
   · simp only[List.mem_cons,List.not_mem_nil,or_false] at w;rcases w with rfl|rfl|rfl
     · exact .inl ⟨_,_,rfl⟩
     · exact .inr (.inl ⟨_,_,rfl⟩)
     · exact .inr (.inl ⟨_,_,rfl⟩)
   rw[Asl,Ad,dt,Ad];have m:AP c (c.new (.row (Ai (bN (Ch true l) fl a b) 0 Z48) 8 0 Ci true)):=.new;refine k (g.trans m) ?_;have w4:=i.ext d (g.trans m);have u:=a1.ext (g.trans m);have r:=a2.ext (g.trans m);have w:=a0.ext (g.trans m) (vZ d.nK i.n);show oK (AB env .append [30,30] [s,_] _) _;rw[SS];refine VQ (lo:=hS.next.nat) (ds:=bN (Ch true l) fl a b) u rfl Yv (Nx (by omega)) w4.n rfl rfl λc k g k5=>?_;obtain⟨i,m,s,u,a4,a5,a3⟩:=w4.kpT d k5;have a1:=w.GD k5 (vZ d.nK w4.n) (by decide);refine m.Z (j:=0) (by show 0<14;decide) (Cv ?_);show oK (Ag (.ptr p.pK 0) k) _;rw[Aj,Ad,Ae,Ae];refine a1.BC (j:=8) (cs':=p.cells c f st) (by show 8<16;decide) g.one rfl λw k f6 a2=>?_;exact v e w ⟨i.trans ⟨by rw[k];exact vE _,λj _ y=>f6 j λe=>y (.inl (.inr (.inl e)))⟩,m.of (f6 _ d.XK),⟨c,f,a2,g.of k f6 (a1.Fy (by decide)),(r.kp0 k5 (by decide)).of k f6 (a1.Fy (by decide))⟩,s.of (f6 _ d.KF.symm),by unfold Ct;rw[f6 _ d.KA.symm];exact u,a4.put k f6 d.KB.symm a1.K8,a5,a3.1,a3.2.of k f6 (a1.WT (by decide) (by decide))⟩
end
end Go.Den
namespace Go.Den
open Go.RowKit
set_option maxRecDepth 100000
abbrev TSp:TypeId:=45
theorem Atc(q:P)(o n:Nat)(b:Bool)(h:H):slice3 env h 30 (.slice q o n 8 b) (some (Bf (.int .i64 (vJ 2)))) none none=C3 h (HK q o n 8 b 2 n none):=by kernel_rfl
theorem Aaf{a:H}{v:U}{c0 b:List U}{c:List (List U)}(d:CI 8 a v (c0::b::c)){f:KV}(g:∀h,CI 8 a h c→h.one=true→(∃q o n i,v=.slice q o n 8 i∧∃j k l,h=.slice q j k 8 l)→f h a):oK (slice3 env a 30 v (some (Bf (.int .i64 (vJ 2)))) none none) f:=by
 rcases d with⟨_,e⟩|⟨q,o,m,p,i,rfl,r,s,t,u⟩
 · cases e
 · rw[Atc];unfold HK;have w:2≤(c0::b::c).length:=by simp
   rw[wY w,wY (vE _)];show oK (some (.slice q (o+2*8) ((c0::b::c).length-2) 8 (An i (Nat.beq (c0::b::c).length (c0::b::c).length)),a)) _;rw[Ad];have e:=KN.sub (lo:=2) (n:=c.length) u;have x:((c0::b::c).drop 2).take c.length=c:=by simp
   rw[x] at e;have y:(c0::b::c).length-2=c.length:=by simp
   refine g _ (.inr ⟨q,_,m,p,_,by rw[y],r,s,?_,e⟩) rfl ⟨q,o,_,i,rfl,_,_,_,rfl⟩;simp only[List.length_cons] at t;omega
theorem Agk(h:H):AF env (env.ty TSp) [] h=some (.agg [.str 0 0,.int .i64 (vJ 0),.int .i64 (vJ 0)],h):=by kernel_rfl
section
variable{hS h:H}{p:PW}{vl:U}{Lc:List (List U)}{XS:List (List (List U))}{T D:List (List U)}{C:Option (List U)}{st:Bool}{fu:Nat}{L:Cn}
variable{nm wn fl JN:List UInt8}{vs vc m1 m2 m3 m4 IS vt A B O:U}{dl a b a0 b0:Int}{R:List (List U)}
theorem Avc(d:CQ hS h p (p.file nm wn vs dl vc m1 m2 m3 m4 JN a0 b0 IS) C T D st fu L)(f:Dq hS p vl Lc XS){g i n:Nat}(j:g≠1)(hi:i<Lc.length)(k:Lc[i]=[vt,A,B,O]){c0 l:List U}(m:CI 8 hS vt (c0::l::R)){r s u v w:U}(x:l=[r,s,u,S fl,.int .i64 a,.int .i64 b,v,w]){y:KV}
 (a1:∀a2 a3,CQ hS a2 p (p.file nm wn vs dl vc vt A B O fl a b a3) C T D st fu L→CI 8 a2 a3 R→(∀q o n z t,a3=.slice q o n z t→¬IW p hS q∧q.nat<hS.next.nat)→(PU W1 y n).a4 (.ptr p.pX 0) (vJ g) a2):W1 (.func 84) [.ptr p.pX 0,.int .i64 (vJ g),.agg [vt,A,B,O]] h y:=by
 refine w84 (n:=n+1) AJ (g84 ?_);unfold VX;rw[CB];refine CA (by simp) ?_;refine newRow (e:=Dd) (cs:=[vt,A,B,O]) rfl λg y a2 a3=>?_;have g:=d.ext f y;have y:=d.n;refine a3.A3 (o:=0) (ds:=[vt,A,B,O]) rfl rfl (by simp) ?_;rw[Agk,Ad,Aj,Ad,Ae];have d:=vZ f.nX y;have y:p.pX≠h.next:=λe=>by rw[e] at d;exact yd _ d
 refine g.rX.CV (o:=6) (ds:=[vt,A,B,O]) (cs':=p.file nm wn vs dl vc vt A B O JN a0 b0 IS) rfl (by decide) (by show 6+4≤14;decide) rfl λd a2 a4 a5=>?_;have d:=g.bL f a2 a4 a5;have g:=a3.of (a4 _ y.symm);rw[Aj,Ad,Ae];refine a5.CV (o:=10) (ds:=[.str 0 0,.int .i64 (vJ 0),.int .i64 (vJ 0)]) (cs':=p.file nm wn vs dl vc vt A B O [] (vJ 0) (vJ 0) IS) rfl (by decide) (by show 10+3≤14;decide) rfl λa2 a3 f3 r3=>?_;have w3:=d.bL f a3 f3 r3;have q3:=g.of (f3 _ y.symm);rw[Aj,Ad,Ae];refine r3.BC (j:=13) (cs':=p.file nm wn vs dl vc vt A B O [] (vJ 0) (vJ 0) .Af) (by show 13<14;decide) rfl rfl λd g a4 a5=>?_;have w4:=w3.bL f g a4 a5;have q4:=q3.of (a4 _ y.symm);rw[DB,decide_eq_false j];refine By rfl ?_;rw[Ae];refine q4.Z (j:=0) (by show 0<4;decide) ?_;have g:=w4.tok f hi k m;have j:1<(c0::l::R).length:=by simp
 show A7 8 1 vt _;refine(g.rd j).elem j λq o _ _ l=>?_;have l:Dl d q o [r,s,u,S fl,.int .i64 a,.int .i64 b,v,w]:=by rw[←x];exact l
 rw[Ae];refine l.uc (j:=3) (c:=3) (by show 3+3≤8;decide) ?_;show Ac 0 (.ptr h.next 0) _;rw[Ae];refine q4.Z (j:=0) (by show 0<4;decide) ?_;show oK (slice3 env d 30 vt (some (Bf (.int .i64 (vJ 2)))) none none) _;refine Aaf g λj r s u=>?_;rw[Aj,Ad,Ae];refine a5.CV (o:=10) (ds:=[S fl,.int .i64 a,.int .i64 b]) (cs':=p.file nm wn vs dl vc vt A B O fl a b .Af) rfl (by decide) (by show 10+3≤14;decide) rfl λv w f5 r5=>?_;have w5:=w4.bL f w f5 r5;have q5:=q4.of (f5 _ y.symm);refine q5.Z (j:=0) (by show 0<4;decide) ?_;show BE vt vt _;refine C2 (u.elim λq e=>e.elim λo e=>e.elim λn e=>e.elim λb e=>.inr (.inr (.inr (.inr (.inl ⟨_,_,_,_,_,e.1⟩))))) ?_;rw[Aj,Ad,Ae];refine r5.BC (j:=13) (cs':=p.file nm wn vs dl vc vt A B O fl a b j) (by show 13<14;decide) s rfl λx l f6 r6=>?_;have av:∀q o n z t,j=.slice q o n z t→¬IW p hS q∧q.nat<hS.next.nat:=λq o n z t e=>by
  obtain⟨d,g,n0,v,y,s,a2,a3,a4⟩:=u;rw[a4] at e;obtain rfl:d=q:=by cases e;rfl
  have s:=f.lt i hi d g n0 8 v (by rw[k,y];rfl);refine⟨s,?_⟩;rcases m with⟨_,e⟩|⟨u,_,_,_,_,d,g,_⟩
  · cases e
  · rw[y] at d;cases d;exact g
 have w6:=w5.bL f l f6 r6;refine a1 x j w6 ?_ av;refine r.DV (X:=IW p hS) ⟨by rw[l,w];exact vE _,λc _ i=>?_⟩ λq o n z t e=>(av q o n z t e).1;rw[f6 c λe=>i (.inl (.inl e)),f5 c λe=>i (.inl (.inl e))]
theorem Atf(c:CQ hS h p (p.file nm wn vs dl vc m1 m2 m3 m4 JN a0 b0 IS) C T D st fu L)(d:Dq hS p vl Lc XS){f g:Nat}(i:8≤f)(hi:g<Lc.length)(j:Lc[g]=[vt,A,B,O]){c0 k:List U}(l:CI 8 hS vt (c0::k::R)){m r s u v:U}(w:k=[m,r,s,S fl,.int .i64 a,.int .i64 b,u,v]){x:KV}
 (y:∀g i,CQ hS g p (p.file nm wn vs dl vc vt A B O fl a b i) C T D st fu L→CI 8 g i R→(∀q o n z t,i=.slice q o n z t→¬IW p hS q∧q.nat<hS.next.nat)→W1 (.func 85) [.ptr p.pX 0] g λk m=>Be k λr=>V (Bm r) (W1 (.func 111) [.ptr p.pX 0,.int .i64 (vJ f)] m λ_ s=>x (.tuple []) s) (x (.tuple []) m)):W1 (.func 84) [.ptr p.pX 0,.int .i64 (vJ f),.agg [vt,A,B,O]] h x:=by
 refine Avc (n:=3) c d (by omega) hi j l w λg i u v av=>?_;refine Aww ?_;unfold XU;rw[DB,DB,DB,decide_eq_false (show¬f=2 by omega),decide_eq_false (show¬f=3 by omega),decide_eq_false (show¬f=4 by omega)];refine AR rfl (AR rfl ?_);refine Auu ?_;unfold Xg;refine AR rfl ?_;rw[DB,DB,DB,decide_eq_false (show¬f=5 by omega),decide_eq_false (show¬f=6 by omega),decide_eq_false (show¬f=7 by omega)];refine AR rfl (AR rfl ?_);refine Auo ?_;unfold Yg;exact AR rfl (y g i u v av)
theorem cu(r:AH h p.pX PL (p.file nm wn vs dl .Af m1 m2 m3 m4 fl a b IS)){c:KV}(d:c (.bool false) h):W1 (.func 85) [.ptr p.pX 0] h c:=by refine w85 (n:=1) AJ (g85 ?_);unfold XM;rw[Aj,Ad,Ae];refine r.Z (j:=5) (by show 5<14;decide) ?_;show Bz .Af _;rw[Fh];refine Dm (λe=>by cases e) (λ_=>?_);exact d
end
end Go.Den
noncomputable section
namespace Go.Den
open Go.RowKit
set_option maxRecDepth 100000
def TxL(X:List (List U)):Prop:=∀c∈X,Gu c∧c[1]?≠some (S [35])∧c[1]?≠some (S [37,58])
section
variable{hS h:H}{p:PW}{vl:U}{Lc:List (List U)}{XS:List (List (List U))}{T D:List (List U)}{C:Option (List U)}{st:Bool}{fu:Nat}{L:Cn}
variable{nm wn fl JN:List UInt8}{vs vc m1 m2 m3 m4 IS vt A B O:U}{dl a b a0 b0:Int}{R:List (List U)}
theorem MP(a:CQ hS h p (p.file nm wn vs dl vc m1 m2 m3 m4 JN a0 b0 IS) C T D st fu L)(b:Dq hS p vl Lc XS){c n:Nat}(d:Lc.length≤c∨st=true){f:KV}(g:f (.tuple []) h):(HN W1 f (n+1)).a1 (.ptr p.pX 0) vl (.ptr p.B 0) (vJ c) h:=by
 refine cr ?_;unfold OQ;rw[b.sl.len,Cr];refine Dm (λe=>?_) (λ_=>AR rfl g);have e:=of_decide_eq_true e;obtain rfl:st=true:=by
  rcases d with q|q
  · omega
  · exact q
 obtain⟨vt,i,j,_,_⟩:=a.rK;rw[Aj,Ad,Ae];refine a.rX.Z (j:=0) (by show 0<14;decide) ?_;show oK (Ag (.ptr p.pK 0) h) _;rw[Aj,Ad,Ae,Ae];refine j.Z (j:=12) (by show 12<16;decide) ?_;show Be (.bool true) _;rw[AL];exact AR rfl g
theorem CQ.row(w:CQ hS h p (p.file nm wn vs dl vc m1 m2 m3 m4 JN a0 b0 IS) C T D st fu L)(s:Dq hS p vl Lc XS){i:Nat}(hi:i<Lc.length)(a:Lc[i]=[vt,A,B,O]){h':H}(x:AP h h'){K:U→Prop}(b:K vt):Bo (vJ i) λc=>A7 4 c vl λd=>Ac 0 d λf=>Z f h' K:=Cy (by refine(((w.sl s).ext x).rd hi).elem hi λq o _ _ g=>?_;rw[a] at g;exact g.Z (j:=0) (by show 0<4;decide) b)
theorem CQ.top{K E:H→Prop}(w:CQ hS h p (p.file nm wn vs dl vc m1 m2 m3 m4 JN a0 b0 IS) C T D false fu L)(a:Dq hS p vl Lc XS){b:Nat}(hi:b<Lc.length)(c:K h):
 Bz vl λd=>AM (λk7=>gate true (Ba (vJ b) (vJ d)) (oK (Ag (.ptr p.pX 0) h) λf g=>Ac 0 f λi=>Z i g λj=>oK (Ag j g) λk l=>Ac 8 k λm=>Ac 4 m λn=>Z n l λo=>Be o λq=>k7 (Bm q) l) (k7 false h)) λr s=>V r (K s) (E s):=by
 obtain⟨vt,t,u,_,_⟩:=w.rK;rw[a.sl.len,Cr,decide_eq_true hi];refine Dm (λ_=>?_) (λe=>by cases e);rw[Aj,Ad,Ae];refine w.rX.Z (j:=0) (by show 0<14;decide) ?_;show oK (Ag (.ptr p.pK 0) h) _;rw[Aj,Ad,Ae,Ae];refine u.Z (j:=12) (by show 12<16;decide) ?_;show Be (.bool false) _;rw[AL];exact By rfl c
theorem dN(a:CQ hS h p (p.file nm wn vs dl vc m1 m2 m3 m4 JN a0 b0 IS) C T D false fu L)(b:Dq hS p vl Lc XS){c n:Nat}(hi:c<Lc.length)(d:Lc.length≤1000000)(f:Lc[c]=[vt,A,B,O]){c0 g:List U}(i:CI 8 hS vt (c0::g::R)){j:List UInt8}(k:gK j c0 g)(l:II j≠0){m:KV}
 (r:∀s,CQ hS s p (p.file nm wn vs dl vc m1 m2 m3 m4 JN a0 b0 IS) C T D false fu L→W1 (.func 84) [.ptr p.pX 0,.int .i64 (vJ (II j)),.agg [vt,A,B,O]] s λ_ t=>(HN W1 m n).a1 (.ptr p.pX 0) vl (.ptr p.B 0) (vJ (c+1)) t):(HN W1 m (n+1)).a1 (.ptr p.pX 0) vl (.ptr p.B 0) (vJ c) h:=by
 refine cr ?_;unfold OQ;refine a.top b hi ?_;refine a.row b hi f .refl ?_;refine Abo (a.tok b hi f i) k a.kn (vZ b.nA a.n) λu w x=>?_;have y:=a.gA b w x;rw[AG,DB,decide_eq_false l];refine By rfl (Cy ?_);refine((y.sl b).rd hi).elem hi λq o _ _ d=>?_;rw[f] at d;refine d.A3 rfl ?_;refine Nw (r u y) λv g j=>?_;exact Bx (by omega) j
theorem aF(a:CQ hS h p (p.file nm wn vs dl vc m1 m2 m3 m4 JN a0 b0 IS) C T D false fu L)(b:Dq hS p vl Lc XS){c n:Nat}(hi:c<Lc.length)(d:Lc[c]=[vt,A,B,O])(f:CI 8 hS vt R)(g:TxL R){i:KV}
 (j:∀k,AP h k→(HN W1 i n).a2 (.ptr p.pX 0) vl (.ptr p.B 0) (vJ c) .Af (vJ c) k):(HN W1 i (n+1)).a1 (.ptr p.pX 0) vl (.ptr p.B 0) (vJ c) h:=by
 refine cr ?_;unfold OQ;refine a.top b hi ?_;refine a.row b hi d .refl ?_;refine c83 (a.tok b hi d f) g λl m=>?_;rw[AG];exact AR rfl (j l m)
def Oj(XS:List (List (List U)))(a j:Nat):List (List U):=Hn [] true ((XS.drop a).take (j-a))
theorem dH(XS:List (List (List U)))(a:Nat):Oj XS a a=[]:=by unfold Oj;rw[yo,yq];rfl
theorem ml{XS:List (List (List U))}{a i:Nat}(b:a≤i)(hi:i<XS.length):Oj XS a (i+1)=Oj XS a i++(if i=a then XS[i] else NZ XS[i]):=by
 have c:i-a<(XS.drop a).length:=by rw[yt];omega
 have d:(XS.drop a).take (i+1-a)=(XS.drop a).take (i-a)++[XS[i]]:=by rw[show i+1-a=(i-a)+1 by omega,yp,wq c,List.getElem_drop];simp only[show a+(i-a)=i by omega];rfl
 unfold Oj;rw[d,bj];by_cases e:i=a
 · subst e;rw[if_pos rfl,if_pos (by rw[yo,yq])]
 · rw[if_neg e,if_neg λq=>by have:=congrArg List.length q;rw[ym,yt,List.length_nil] at this;omega]
theorem Rl(c:CQ hS h p (p.file nm wn vs dl vc m1 m2 m3 m4 JN a0 b0 IS) C T D st fu L)(d:Dq hS p vl Lc XS){a j:Nat}(f:j≤XS.length)(g:XS.length≤1000000)(k:∀i (hi:i<XS.length),a≤i→i<j→TxL XS[i])(l:∀i,a≤i→i≤j→(Oj XS a i).length≤1000000){m:KV}{n0:Nat}
    (q:∀r s,AP h r→BJ Ci 8 h.next.nat r s (Oj XS a j)→(HN W1 m (0+n0)).a2 (.ptr p.pX 0) vl (.ptr p.B 0) (vJ j) s (vJ a) r):
    ∀(t i:Nat){u:H}{v:U},j-i=t→a≤i→i≤j→AP h u→BJ Ci 8 h.next.nat u v (Oj XS a i)→(HN W1 m (2*t+n0)).a2 (.ptr p.pX 0) vl (.ptr p.B 0) (vJ i) v (vJ a) u
  |0,i,u,v,w,y,hi,x,b=>by
    have e:i=j:=by omega
    subst e;exact q u v x b
  |t+1,i,u,v,w,y,hi,x,b=>by
    have u:i<j:=by omega
    have w:i<XS.length:=by omega
    have a1:i<Lc.length:=by rw[d.ls.1];exact w
    obtain⟨vt,A,B,O,a2,a3⟩:=d.ls.2 i a1 w;have a4:=k i w y u;rw[show 2*(t+1)+n0=(2*t+n0+1)+1 by omega];refine Abn ?_;unfold Tk;rw[d.sl.len,Cr,decide_eq_true a1];refine Dm (λ_=>?_) (λe=>by cases e);refine c.row d a1 a2 x ?_;refine c83 ((c.tok d a1 a2 a3).ext x) a4 λa5 a6=>?_;have X2:=x.trans a6;have a5:=b.ext a6;rw[AG];refine By rfl ?_;rw[a5.n.len];refine c.row d a1 a2 X2 ?_;rw[SS];have a6:=l i y hi;have a6:=l (i+1) (by omega) u;have a7:=ml y w;have w:(if i=a then XS[i] else NZ XS[i]).length=XS[i].length:=by
      split
      · rfl
      · exact rV _
    have y:(Oj XS a i).length+XS[i].length≤1000000:=by rw[a7,o7,w] at a6;exact a6
    have y:∀w∈XS[i],w.length=8:=λw a6=>(a4 w a6).1.l8;obtain⟨a4,a8,a9,b1,m3,f3⟩:=Xy a5 (JJ ((c.tok d a1 a2 a3).ext X2)) y Yv (Nx (by omega)) X2.1;rw[a9,Ad];have X3:AP h a8:=⟨vY X2.1 m3,λw a6=>by
      rw[f3 w (vZ a6 X2.1) λo n z y a4=>?_,X2.2 w a6];rcases a5 with⟨w,_⟩|⟨a1,a2,a3,a9,w,a8,_⟩
      · rw[w] at a4;cases a4
      · rw[w] at a4;cases a4;omega⟩
    rw[Cr];refine DR (b:=decide ((Oj XS a i).length<(Oj XS a i++XS[i]).length)) (λw a6=>by rw[b1.n.len,Cr];exact a6) ?_;have next:∀{s:U}{r:H},AP h r→BJ Ci 8 h.next.nat r s (Oj XS a (i+1))→(HN W1 m (2*t+n0+1)).a3 (.ptr p.pX 0) vl (.ptr p.B 0) (vJ i) s (vJ a) r:=λw y=>by refine Axl ?_;unfold VE;exact Bx (by omega) (Rl c d f g k l q t (i+1) (by omega) (by omega) u w y)
    refine Bp (λe=>?_) (λe=>?_)
    · simp only[Bool.and_eq_true,decide_eq_true_eq] at e;refine b1.set (i:=(Oj XS a i).length) (j:=2) e.2 (by decide) rfl λm r k4 s=>?_;refine next (k4.PX X3 (vE _)) ?_
      have c:0<XS[i].length:=by have:=e.2;rw[o7] at this;omega
      rw[a7,if_neg (by omega)];rw[rE c e.2] at r;exact r
    · refine next X3 ?_
      rw[a7];by_cases h0:i=a
      · rw[if_pos h0];exact b1
      · have c:XS[i]=[]:=by
          rw[Bool.and_eq_false_iff] at e;rcases e with e|e
          · have:=of_decide_eq_false e;omega
          · have:=of_decide_eq_false e;rw[o7] at this;exact List.eq_nil_of_length_eq_zero (by omega)
        rw[c] at b1 ⊢;rw[if_neg h0];exact b1
end
end Go.Den
