/-
 Proof.
-/
import Derived.Test.YtmgalljhidgnoaaGreatDoorLpd
open Nat renaming le_trans → vY, lt_of_lt_of_le → vZ, ble_eq_true_of_le → wY, le_refl → vE, not_lt_zero → vH, zero_add → wJ, succ_pos → yG, add_sub_cancel_left → yH
open Int renaming ofNat → vJ
open List renaming length → yI, map_take → yJ, map_drop → yK, length_take → ym, length_drop → yt, take_succ_eq_append_getElem → vA, take_of_length_le → yL, take_zero → yq
noncomputable section
namespace Go.Den
open Go.RowKit
set_option maxRecDepth 100000
open Go.Lx (Rn AA Bi Co El Ih Dp DO Gg EI E9 Ey EG IP HA Cs)
abbrev Ci:TypeId:=48
abbrev TBl:TypeId:=197
theorem Ee.of{e:TypeId}{lo:Nat}{p:P}{h0 a h':H}(x:Ee e lo p h0 a)(b:a.next.nat≤h'.next.nat)(d:∀c,c.nat<h0.next.nat→h'.at c=a.at c):Ee e lo p h0 h':=
 ⟨vY x.1 b,λc f g h=>by rw[d c f,x.2 c f g h]⟩
theorem CI.keep{sz n:Nat}{a b:H}{p:P}{v:U}{c:List (List U)}(d:CI sz a v c)(f:Old p v)(g:a.next.nat≤b.next.nat)(h:∀i,i.nat<n→b.at i=a.at i)(j:p.nat≤n):CI sz b v c:=by
 rcases d with d|⟨k,o,i,l,m,e,q,r,s⟩
 · exact .inl d
 · exact .inr ⟨k,o,i,l,m,e,vZ q g,r.frame (h _ (vZ (f _ _ _ _ _ e) j)),s⟩
section
variable{h:H}{pW:P}{fl:List UInt8}{L:List Rn}{a:Nat}{D:List (List U)}{sp:Bool}{q:Int}
theorem Wd.frb{lo:Nat}{b:P}{c:H}(d:Wd h pW fl L a D sp q)(x:sy lo b h c)(f:pW.nat+1≤lo)(g:lo≤b.nat){t:Tm}{i z:Nat}{j:Bool}(k:h.at b=.row t i z TBl j):Wd c pW fl L a D sp q:=by
 obtain⟨l,j,m⟩:=d.w;refine⟨⟨l,j.keep x.1 λn o=>x.2 n (by have:=j.n;omega) (λe=>by subst e;omega) (.inl (by omega)),?_⟩,d.len⟩;refine m.frame x.1 λn o _ p r s u v=>x.2 n o (λe=>?_) (.inr λw y b c f=>?_)
 · subst e;rw[k] at v;cases v
 · rw[v] at f;cases f
theorem Ajc(p:P)(o n lo hi:Nat)(b:Bool)(h:H):slice3 env h 167 (.slice p o n 3 b) (some (Bf (.int .i64 (vJ lo)))) (some (Bf (.int .i64 (vJ hi)))) none=C3 h (HK p o n 3 b lo hi none):=by kernel_rfl
theorem Zk{p:P}{v:U}(a:CI 3 h v (DM L))(b:Old p v){lo hi:Nat}(c:lo≤hi)(d:hi≤L.length)(f:lo<L.length){g:KV}(i:∀j,Old p j→CI 3 h j (DM ((L.drop lo).take (hi-lo)))→g j h):oK (slice3 env h 167 v (some (Bf (.int .i64 (vJ lo)))) (some (Bf (.int .i64 (vJ hi)))) none) g:=by
 rcases a with⟨rfl,e⟩|⟨k,o,l,m,n,rfl,q,r,s,t⟩
 · have:=congrArg yI e;rw[B6] at this;rw[this] at f;cases f
 · rw[B6] at s;rw[Ajc];unfold HK;rw[wY c,B6,wY d];show oK (some (.slice k (o+lo*3) (hi-lo) 3 (An n (Nat.beq hi L.length)),h)) _;rw[Ad];have e:=KN.sub (lo:=lo) (n:=hi-lo) t;have u:((DM L).drop lo).take (hi-lo)=DM ((L.drop lo).take (hi-lo)):=by unfold DM;rw[yJ,yK]
   rw[u] at e;have w:(DM ((L.drop lo).take (hi-lo))).length=hi-lo:=by rw[B6,ym,yt];omega
   refine i _ (λx y g j a f=>by cases f;exact b _ _ _ _ _ rfl) (.inr ⟨k,_,l,m,_,by rw[w],q,r,by rw[w];have:hi*3≤L.length*3:=Nat.mul_le_mul_right _ d;omega,e⟩)
theorem tm(a:Int)(l c:Nat)(b:Bool)(x y z:U)(h:H):AF env (env.ty Ci) [(0,.int .i64 a),(1,.str l c),(2,.bool b),(3,.agg [x,y,z])] h=some (.agg [.int .i64 a,.str l c,.bool b,x,y,z,.bool false,.Af],h):=by kernel_rfl
def Ic(fl:List UInt8)(L:List Rn)(a:Nat)(sp:Bool):List U:=[.int .i64 (vJ (Go.Lx.B7 ((AA L).drop a)).1),S (((AA L).drop a).take (Go.Lx.B7 ((AA L).drop a)).2.1),.bool sp]++H5 fl L a (a+(Go.Lx.B7 ((AA L).drop a)).2.1)++[.bool false,.Af]
def Fs:List U:=[(.int .i64 (vJ 0)),(.str 0 0),(.bool false),(.str 0 0),(.int .i64 (vJ 0)),(.int .i64 (vJ 0)),(.bool false),.Af]
structure Hand(h0 h:H)(pW p1 b:P)(l:List UInt8):Prop where
 fr:Ee CC (pW.nat+1) pW h0 h
 row:∃t,h.at p1=.row t 8 0 Ci true
 n1:p1.nat<h.next.nat
 l1:h0.next.nat≤p1.nat
 bl:Gz h0.next.nat h b l
 lb:h0.next.nat≤b.nat
 zero:l=[]→Dl h p1 0 Fs
theorem Hand.bt{h0 h:H}{pW a b:P}{l:List UInt8}(c:Hand h0 h pW a b l):∃t,h.at b=.row t 2 0 TBl true:=by obtain⟨t,d,_⟩:=c.bl;exact⟨t,d⟩
theorem Hand.Gd{h0 h a:H}{pW c b:P}{l:List UInt8}(d:Hand h0 h pW c b l)(f:pW.nat<h0.next.nat)(x:Ee CC (pW.nat+1) pW h a){t:Tm}(g:h.at pW=.row t 6 0 I3 true):Hand h0 a pW c b l:=by obtain⟨i,j⟩:=d.row;have k:=d.l1;have m:=d.lb;have n:a.at c=h.at c:=x.2 c d.n1 (λe=>by subst e;omega) (.inr λo p q r s=>by rw[j] at s;cases s);obtain⟨tb,u,v,w,y,f⟩:=d.bl;have s:a.at b=h.at b:=x.2 b v (λe=>by subst e;omega) (.inr λo p q r s=>by rw[u] at s;cases s);refine⟨d.fr.trans x,⟨i,by rw[n];exact j⟩,vZ d.n1 x.1,k,⟨tb,by rw[s];exact u,vZ v x.1,w,?_,f⟩,m,λe=>(d.zero e).frame n⟩;exact y.Gd x (by decide) g (by decide)
theorem Hand.ext{h0 h h':H}{pW a b:P}{l:List UInt8}(c:Hand h0 h pW a b l)(x:AP h h'):Hand h0 h' pW a b l:=by obtain⟨d,f⟩:=c.row;exact⟨c.fr.trans x.Gd,⟨d,by rw[x.2 _ c.n1];exact f⟩,vZ c.n1 x.1,c.l1,c.bl.ext x,c.lb,λe=>(c.zero e).ext x c.n1⟩
theorem L3{h0 b:H}{c:P}{t:Tm}(d:Ob FT)(f:Wd b pW fl L a D sp q)(g:Ee CC (pW.nat+1) pW h0 b)(h:pW.nat<h0.next.nat)(i:h0.next.nat≤c.nat)(j:b.at c=.row t 8 0 Ci true):Wd (b.put c d) pW fl L a D sp q∧Ee CC (pW.nat+1) pW h0 (b.put c d):=by obtain⟨k,l,m⟩:=f.w;exact⟨⟨⟨k,l.keep (vE _) λn o=>AQ λe=>by subst e;omega,m.frame (vE _) λn _ _ p r s u v=>AQ λe=>by subst e;rw[j] at v;cases v⟩,f.len⟩,g.of (vE _) λn o=>AQ λe=>by subst e;omega⟩
theorem iY(c:L.length≤1000000){d:H}(f:pW.nat<d.next.nat){g b:P}(i:g≠b){k l:Nat}(m:0<l)(p:a+l≤L.length)(r:D.length≤a+l){o:Bool}{s:U}(t:Old pW s){u:KV}
    (v:∀w,Ee CC (pW.nat+1) pW d w→Wd w pW fl L (a+l) D false q→u (.tuple [.agg ([.int .i64 (vJ k),S (((AA L).drop a).take l),.bool sp]++H5 fl L a (a+l)++[.bool false,.Af]),.bool o,.bool true]) w):∀(n x:Nat){h:H},l-x<n→x≤l→Hand d h pW g b ((((AA L).drop a).take l).take x)→Wd h pW fl L a D sp q→CI 3 h s (DM ((L.drop a).take l))→
      (Jw W1 u n).a1 (.ptr pW 0) (.ptr g 0) o (.ptr b 0) (vJ k) (vJ l) s (vJ l) (vJ x) h
  |0,_,_,y,_,_,_,_=>absurd y (vH _)
  |n+1,x,h,y,hi,k,s,u=>by
    refine Arz ?_;unfold Wp;have y:((L.drop a).take l).length=l:=by rw[ym,yt];omega
    have a0:(((AA L).drop a).take l).length=l:=by rw[ym,yt,Bj];omega
    have eb:AA ((L.drop a).take l)=((AA L).drop a).take l:=by unfold AA;rw[yJ,yK]
    rw[Cr];refine Bp (λe=>?_) (λe=>?_)
    · have e:x<l:=of_decide_eq_true e;have a1:x<((L.drop a).take l).length:=by rw[y];exact e
      have y:x<(((AA L).drop a).take l).length:=by rw[a0];exact e
      refine Nn u a1 λa2 a3 a4=>?_;refine a4.A3 rfl ?_;refine BX ?_;refine GW (e:=172) (zs:=[(.int .u8 (vJ 0)),(.int .i64 (vJ 0)),(.int .i64 (vJ 0))]) rfl rfl (by decide) λa2 a3 a4 a5=>?_;rw[Ae];refine a5.Z (j:=0) (by show 0<3;decide) ?_;show Ar .u8 (.int .u8 (vJ ((L.drop a).take l)[x].1.toNat)) _;rw[AG];have a4:=k.ext a3;have a5:=s.ext a3;have a6:=a4.fr.1;obtain⟨tb,a7⟩:=a4.bt;refine cB (x:=((L.drop a).take l)[x].1) a4.bl a6 (by rw[ym];omega) λ_ a6 a8 a9=>?_;refine Bx (by omega) ?_;have b0:(((AA L).drop a).take l).take x++[((L.drop a).take l)[x].1]=(((AA L).drop a).take l).take (x+1):=by rw[vA y];congr 2;have:=Jd a1 (by rw[Bj];exact a1);rw[←this];congr 1
      rw[b0] at a8;have a1:=a5.frb a9 f a4.lb a7;have b0:=a4.l1;obtain⟨a7,b1⟩:=a4.row;have b2:a6.at g=a2.at g:=a9.2 g a4.n1 i (.inr λb3 b4 b5 b6 y=>by rw[b1] at y;cases y);refine iY c f i m p r t v n (x+1) (by omega) e ⟨a4.fr.of a9.1 λb7 u=>a9.2 b7 (vZ u a4.fr.1) (λe=>by subst e;have:=a4.lb;omega) (.inl u),⟨a7,by rw[b2];exact b1⟩,vZ a4.n1 a9.1,b0,a8,a4.lb,λc=>?_⟩ a1 ?_
      · have:=congrArg yI c;rw[ym,a0] at this;have:min (x+1) l=0:=this;omega
      · exact(u.ext a3).keep (n:=d.next.nat) t a9.1 (λb7 u=>a9.2 b7 (vZ u a4.fr.1) (λe=>by subst e;have:=a4.lb;omega) (.inl u)) (by omega)
    · have e:x=l:=by have:=of_decide_eq_false e;omega
      subst e;rw[yL (by rw[a0];exact vE _)] at k;obtain⟨i,m,r⟩:=s.w;obtain⟨c,t,l,a4,i,g3,r,g5,g6⟩:=m.row;have i:∀{w:H}{j:Nat}{K:U→Prop},w.at pW=.row c 6 0 I3 true→j<6→K (AD c j)→Go.Den.Z (.ptr pW (0+j)) w K:=λl r w=>by refine C6 l (by omega) ?_;rw[wJ];exact w
      rw[Aj,Ad,Ae];refine i t (j:=4) (by decide) ?_;rw[g5,AL,Aj,Ad,Ae];refine i t (j:=2) (by decide) ?_;rw[g3,AG,Aj,Ad,Ae];refine i t (j:=2) (by decide) ?_;rw[g3,AG];refine Bx (by omega) ?_;refine gq k.bl (by rw[a0];omega) λa2 k1=>?_;rw[CR];have r:=k.fr.1;have n0:=m.n;have l:a2.at pW=.row c 6 0 I3 true:=by rw[k1.2 pW n0 (.inl f)];exact t
      refine i l (j:=4) (by decide) ?_;rw[g5,AL];refine C2 (.inr (.inr (.inl ⟨_,rfl⟩))) ?_;refine i l (j:=2) (by decide) ?_;rw[g3,AG];refine C2 (.inr (.inl ⟨_,_,rfl⟩)) ?_;refine i l (j:=2) (by decide) ?_;rw[g3,AG];refine C2 (.inr (.inl ⟨_,_,rfl⟩)) ?_;have a5:=s.GD k1 f (by decide);obtain⟨w,m,t⟩:=a5.w;refine uE m (by omega) (by omega) p (by omega) λa6 s=>?_;have t:a6.at pW=.row c 6 0 I3 true:=by rw[s.2 pW m.n];exact l
      refine i t (j:=4) (by decide) ?_;rw[g5,AL];refine C2 (.inr (.inr (.inl ⟨_,rfl⟩))) ?_;unfold H5;rw[tm,Ad];have a1:=a5.ext s;obtain⟨a7,b1⟩:=k.row;have b0:=k.l1;have w:a6.at g=.row a7 8 0 Ci true:=by rw[s.2 g (vZ k.n1 k1.1),k1.2 g k.n1 (.inr λb3 b4 b5 b6 y=>by rw[b1] at y;cases y)];exact b1
      have a9:Ee CC (pW.nat+1) pW d a6:=k.fr.of (vY k1.1 s.1) λb7 u=>by rw[s.2 b7 (vZ (vZ u r) k1.1),k1.2 b7 (vZ u r) (.inl u)]
      have p:g.nat<a6.next.nat:=vZ k.n1 (vY k1.1 s.1);refine JQ w (by rfl) (by decide) λc m=>?_;obtain⟨l,f3⟩:=L3 (.row c 8 0 Ci true) a1 a9 f b0 w;have i:g.nat<(a6.put g (.row c 8 0 Ci true)).next.nat:=p;have r3:(a6.put g (.row c 8 0 Ci true)).at g=.row c 8 0 Ci true:=Bg _ _ _;generalize a6.put g (.row c 8 0 Ci true)=h3 at m l f3 i r3 ⊢;refine l.pos (Bx (by omega) (l.setPos (b:=a+x) (by omega) λt y d r u=>?_));refine u.HG (b:=false) λk s w p l=>?_;have t:g≠pW:=λe=>by subst e;omega
      have x:Dl k g 0 _:=(m.frame (r g t)).frame (p g t);have r5:k.at g=.row c 8 0 Ci true:=by rw[p g t,r g t];exact r3
      have u:g.nat<k.next.nat:=by rw[w,d];exact i
      refine x.A3 rfl ?_;refine JQ r5 (by rfl) (by decide) λm c=>?_;obtain⟨p,f6⟩:=L3 (.row m 8 0 Ci true) l ((f3.trans y).trans s) f b0 r5;refine c.A3 rfl ?_;exact v _ f6 p
theorem gV(c:L.length≤1000000){d:H}(f:pW.nat<d.next.nat){g b:P}(i:g≠b){k l:Nat}(m:0<l)(p:a+l≤L.length)(r:D.length≤a+l){o:Bool}{s:U}(t:Old pW s){u:KV}
    (v:∀w,Ee CC (pW.nat+1) pW d w→Wd w pW fl L (a+l) D false q→u (.tuple [.agg ([.int .i64 (vJ k),S (((AA L).drop a).take l),.bool sp]++H5 fl L a (a+l)++[.bool false,.Af]),.bool o,.bool true]) w):∀(n x:Nat){h:H},l-x<n→x≤l→Hand d h pW g b ((((AA L).drop a).take l).take x)→Wd h pW fl L a D sp q→CI 3 h s (DM ((L.drop a).take l))→
      (Jw W1 u n).a3 (.ptr pW 0) (.ptr g 0) o (.ptr b 0) (vJ k) (vJ l) s (vJ l) (vJ x) h
  |0,_,_,y,_,_,_,_=>absurd y (vH _)
  |n+1,x,h,y,hi,k,s,u=>by
    refine Aur ?_;unfold WG;have y:((L.drop a).take l).length=l:=by rw[ym,yt];omega
    have a0:(((AA L).drop a).take l).length=l:=by rw[ym,yt,Bj];omega
    have eb:AA ((L.drop a).take l)=((AA L).drop a).take l:=by unfold AA;rw[yJ,yK]
    rw[Cr];refine Bp (λe=>?_) (λe=>?_)
    · have e:x<l:=of_decide_eq_true e;have a1:x<((L.drop a).take l).length:=by rw[y];exact e
      have y:x<(((AA L).drop a).take l).length:=by rw[a0];exact e
      refine Nn u a1 λa2 a3 a4=>?_;refine a4.A3 rfl ?_;refine BX ?_;refine GW (e:=172) (zs:=[(.int .u8 (vJ 0)),(.int .i64 (vJ 0)),(.int .i64 (vJ 0))]) rfl rfl (by decide) λa2 a3 a4 a5=>?_;rw[Ae];refine a5.Z (j:=0) (by show 0<3;decide) ?_;show Ar .u8 (.int .u8 (vJ ((L.drop a).take l)[x].1.toNat)) _;rw[AG];have a4:=k.ext a3;have a5:=s.ext a3;have a6:=a4.fr.1;obtain⟨tb,a7⟩:=a4.bt;refine cB (x:=((L.drop a).take l)[x].1) a4.bl a6 (by rw[ym];omega) λ_ a6 a8 a9=>?_;refine Bx (by omega) ?_;have b0:(((AA L).drop a).take l).take x++[((L.drop a).take l)[x].1]=(((AA L).drop a).take l).take (x+1):=by rw[vA y];congr 2;have:=Jd a1 (by rw[Bj];exact a1);rw[←this];congr 1
      rw[b0] at a8;have a1:=a5.frb a9 f a4.lb a7;have b0:=a4.l1;obtain⟨a7,b1⟩:=a4.row;have b2:a6.at g=a2.at g:=a9.2 g a4.n1 i (.inr λb3 b4 b5 b6 y=>by rw[b1] at y;cases y);refine gV c f i m p r t v n (x+1) (by omega) e ⟨a4.fr.of a9.1 λb7 u=>a9.2 b7 (vZ u a4.fr.1) (λe=>by subst e;have:=a4.lb;omega) (.inl u),⟨a7,by rw[b2];exact b1⟩,vZ a4.n1 a9.1,b0,a8,a4.lb,λc=>?_⟩ a1 ?_
      · have:=congrArg yI c;rw[ym,a0] at this;have:min (x+1) l=0:=this;omega
      · exact(u.ext a3).keep (n:=d.next.nat) t a9.1 (λb7 u=>a9.2 b7 (vZ u a4.fr.1) (λe=>by subst e;have:=a4.lb;omega) (.inl u)) (by omega)
    · have e:x=l:=by have:=of_decide_eq_false e;omega
      subst e;rw[yL (by rw[a0];exact vE _)] at k;obtain⟨i,m,r⟩:=s.w;obtain⟨c,t,l,a4,i,g3,r,g5,g6⟩:=m.row;have i:∀{w:H}{j:Nat}{K:U→Prop},w.at pW=.row c 6 0 I3 true→j<6→K (AD c j)→Go.Den.Z (.ptr pW (0+j)) w K:=λl r w=>by refine C6 l (by omega) ?_;rw[wJ];exact w
      rw[Aj,Ad,Ae];refine i t (j:=4) (by decide) ?_;rw[g5,AL,Aj,Ad,Ae];refine i t (j:=2) (by decide) ?_;rw[g3,AG,Aj,Ad,Ae];refine i t (j:=2) (by decide) ?_;rw[g3,AG];refine Bx (by omega) ?_;refine gq k.bl (by rw[a0];omega) λa2 k1=>?_;rw[CR];have r:=k.fr.1;have n0:=m.n;have l:a2.at pW=.row c 6 0 I3 true:=by rw[k1.2 pW n0 (.inl f)];exact t
      refine i l (j:=4) (by decide) ?_;rw[g5,AL];refine C2 (.inr (.inr (.inl ⟨_,rfl⟩))) ?_;refine i l (j:=2) (by decide) ?_;rw[g3,AG];refine C2 (.inr (.inl ⟨_,_,rfl⟩)) ?_;refine i l (j:=2) (by decide) ?_;rw[g3,AG];refine C2 (.inr (.inl ⟨_,_,rfl⟩)) ?_;have a5:=s.GD k1 f (by decide);obtain⟨w,m,t⟩:=a5.w;refine uE m (by omega) (by omega) p (by omega) λa6 s=>?_;have t:a6.at pW=.row c 6 0 I3 true:=by rw[s.2 pW m.n];exact l
      refine i t (j:=4) (by decide) ?_;rw[g5,AL];refine C2 (.inr (.inr (.inl ⟨_,rfl⟩))) ?_;unfold H5;rw[tm,Ad];have a1:=a5.ext s;obtain⟨a7,b1⟩:=k.row;have b0:=k.l1;have w:a6.at g=.row a7 8 0 Ci true:=by rw[s.2 g (vZ k.n1 k1.1),k1.2 g k.n1 (.inr λb3 b4 b5 b6 y=>by rw[b1] at y;cases y)];exact b1
      have a9:Ee CC (pW.nat+1) pW d a6:=k.fr.of (vY k1.1 s.1) λb7 u=>by rw[s.2 b7 (vZ (vZ u r) k1.1),k1.2 b7 (vZ u r) (.inl u)]
      have p:g.nat<a6.next.nat:=vZ k.n1 (vY k1.1 s.1);refine JQ w (by rfl) (by decide) λc m=>?_;obtain⟨l,f3⟩:=L3 (.row c 8 0 Ci true) a1 a9 f b0 w;have i:g.nat<(a6.put g (.row c 8 0 Ci true)).next.nat:=p;have r3:(a6.put g (.row c 8 0 Ci true)).at g=.row c 8 0 Ci true:=Bg _ _ _;generalize a6.put g (.row c 8 0 Ci true)=h3 at m l f3 i r3 ⊢;refine l.pos (Bx (by omega) (l.setPos (b:=a+x) (by omega) λt y d r u=>?_));refine u.HG (b:=false) λk s w p l=>?_;have t:g≠pW:=λe=>by subst e;omega
      have x:Dl k g 0 _:=(m.frame (r g t)).frame (p g t);have r5:k.at g=.row c 8 0 Ci true:=by rw[p g t,r g t];exact r3
      have u:g.nat<k.next.nat:=by rw[w,d];exact i
      refine x.A3 rfl ?_;refine JQ r5 (by rfl) (by decide) λm c=>?_;obtain⟨p,f6⟩:=L3 (.row m 8 0 Ci true) l ((f3.trans y).trans s) f b0 r5;refine c.A3 rfl ?_;exact v _ f6 p
end
open Go.Lx (HX)
def BM(b:List Rn):Nat→Nat→Bool→Bool→Nat×Bool×Bool
 |0,a,c,o=>(a,c,o)
 |d+1,a,c,o=>if b.length≤a then(a,c,o) else if bt (AA b) a=10 then(a,c,o) else if D8 (bt (AA b) a)=true then BM b d (a+1) true o else match EI ((AA b).drop a) with
  |none=>(a,c,false)
  |some (n,f)=>BM b d (a+n) true f
theorem Em{L:List Rn}{k a:Nat}{sp o:Bool}(h:L.length≤a∨bt (AA L) a=10):BM L k a sp o=(a,sp,o):=by
 cases k with
 |zero=>rfl
 |succ k=>
  unfold BM;rcases h with h|h
  · rw[if_pos h]
  · by_cases c:L.length≤a
    · rw[if_pos c]
    · rw[if_neg c,if_pos h]
theorem LQ{b:List Rn}{k a:Nat}{sp o:Bool}(c:a<b.length)(d:bt (AA b) a≠10)(f:D8 (bt (AA b) a)=true):BM b (k+1) a sp o=BM b k (a+1) true o:=by rw[BM,if_neg (by omega),if_neg d,if_pos f]
theorem SB{b:List Rn}{k a n:Nat}{sp o c:Bool}(d:a<b.length)(f:bt (AA b) a≠10)(g:D8 (bt (AA b) a)=false)(h:EI ((AA b).drop a)=some (n,c)):BM b (k+1) a sp o=BM b k (a+n) true c:=by rw[BM,if_neg (by omega),if_neg f,if_neg (by rw[g];decide),h]
theorem GN{b:List Rn}{c a:Nat}{d o:Bool}(f:a<b.length)(g:bt (AA b) a≠10)(h:D8 (bt (AA b) a)=false)(i:EI ((AA b).drop a)=none):BM b (c+1) a d o=(a,d,false):=by rw[BM,if_neg (by omega),if_neg g,if_neg (by rw[h];decide),i]
theorem Rt{s:List UInt8}{n:Nat}{b:Bool}(a:EI s=some (n,b)):0<n∧n≤s.length∧(b=true→n=s.length):=by
 unfold EI at a;split at a
 · cases a
 · rename_i c;have c0:Cs s 0=47:=Classical.not_not.1 c;cases s with
   |nil=>exact absurd c0 (by decide)
   |cons x r=>
    have c0:x=47:=c0;split at a
    · cases a;refine⟨?_,?_,λe=>by cases e⟩
      · rw[List.takeWhile_cons,if_pos (by rw[c0];decide)];exact yG _
      · exact(List.takeWhile_sublist _).length_le
    · split at a
      · cases a
      · rename_i d;have d:=Classical.not_not.1 d;split at a
        · rename_i f g;cases a;have:=Go.Lx.ZI g;have h:((x::r).drop 2).length=(x::r).length-2:=yt ..;exact⟨by omega,by omega,λe=>by cases e⟩
        · cases a;exact⟨yG _,vE _,λ_=>rfl⟩
structure NxK(h00:H)(pW:P)(fl:List UInt8)(L:List Rn)(f a:Nat)(D:List (List U))(sp o:Bool)(q:Int)(k:KV):Prop where
 no:∀h' D' a' sp' o',BM L f a sp o=(a',sp',o')→(L.length≤a'∨bt (AA L) a'=10)→Ee CC (pW.nat+1) pW h00 h'→Wd h' pW fl L a' D' sp' q→(o'=false→D'=D)→D'.length≤a'→k (.tuple [.agg Fs,.bool o',.bool false]) h'
 yes:∀h' D' q' a' sp',BM L f a sp o=(a',sp',false)→a'<L.length→bt (AA L) a'≠10→Ee CC (pW.nat+1) pW h00 h'→Wd h' pW fl L (a'+(Go.Lx.B7 ((AA L).drop a')).2.1) D' false q'→(N8 ((AA L).drop a')=false→D'=D∧q'=q)→D'.length≤a'+(Go.Lx.B7 ((AA L).drop a')).2.1→k (.tuple [.agg (Ic fl L a' sp'),.bool false,.bool true]) h'
section
variable{h:H}{pW:P}{fl:List UInt8}{L:List Rn}{a:Nat}{D:List (List U)}{sp:Bool}{q:Int}
theorem W7 (u : L.length ≤ 1000000) {b2 : H} (g : pW.nat < b2.next.nat) {a2 b : P} (b4 : a2 ≠ b) {k : KV} : ∀ (f n : Nat) {h : H} {a : Nat} {D : List (List U)} {sp o : Bool}, L.length - a < f → L.length - a + L.length + 4 < n → D.length ≤ a → a ≤ L.length → (o = true → L.length ≤ a) → NxK b2 pW fl L f a D sp o q k → Hand b2 h pW a2 b [] → Wd h pW fl L a D sp q →
      (Jw W1 k n).a2 (.ptr pW 0) (.ptr a2 0) o false (.ptr b 0) h
  | 0, _, _, _, _, _, _, c3, _, _, _, _, _, _, _ => absurd c3 (vH _)
  | _ + 1, 0, _, _, _, _, _, _, c4, _, _, _, _, _, _ => absurd c4 (vH _)
  | f + 1, n + 1, h, a, D, sp, o, c3, c4, d8, h0, e0, K, p, s => by
    refine Avt ?_;unfold Xf;obtain ⟨n, rfl⟩ : ∃ c7, n = c7 + 1 := ⟨n - 1, by omega⟩;refine s.pos (s.l λv e1 => ?_);rw [e1.len, B6, Gc];have fin : (L.length ≤ a ∨ bt (AA L) a = 10) → (Jw W1 k (n + 1)).a4 (.ptr a2 0) o false h := λm => by refine qj ?_;unfold RF;obtain ⟨d0, c5⟩ := p.row;refine (p.zero rfl).A3 rfl ?_;refine JQ c5 (by rfl) (by decide) λf2 d1 => ?_;obtain ⟨f0, f6⟩ := L3 (.row f2 8 0 Ci true) s p.fr g p.l1 c5;refine d1.A3 rfl ?_;exact K.no _ D a sp o (Em m) m f6 f0 (λ_ => rfl) d8
    refine F7 (λm => ?_) (λm => By rfl (fin (.inl (of_decide_eq_true m))));have c : a < L.length := by have := of_decide_eq_false m; omega
    refine s.l λh5 e2 => s.pos (Ld e2 c ?_);rw [show AN (vJ L[a].1.toNat) (vJ 10) = decide (L[a].1 = 10) from H4 _ 10 (by decide)];refine Bp (λa6 => fin (.inr (by rw [MX c]; exact of_decide_eq_true a6))) (λa6 => ?_);have y : bt (AA L) a ≠ 10 := by rw [MX c]; exact of_decide_eq_false a6
    refine s.l λh6 e3 => s.pos (Ld e3 c ?_);rw [← MX c];refine Ex (Amj (bt (AA L) a)) ?_;rw [AL];obtain ⟨h7, f5, _⟩ := s.w;obtain ⟨t, c6⟩ := f5.Jp;refine Bp (λa0 => ?_) (λa0 => ?_)
    · refine s.pos (Bx (by omega) (s.setPos (b := a + 1) (Nat.le_succ _) λg7 f9 _ _ c9 => ?_));obtain ⟨f4, c0, _⟩ := c9.w;obtain ⟨d0, b5⟩ := c0.Jp;refine c9.HG (b := true) λd6 c1 _ _ b9 => ?_;have K' := K;have e := LQ (k := f) (sp := sp) (o := o) c y a0;refine W7 u g b4 f (n + 1) (by omega) (by omega) (by omega) c (λq => absurd (e0 q) (by omega)) ⟨λj D' i l b6 d => K.no j D' i l b6 (by rw [e]; exact d), λj D' b7 i l d => K.yes j D' b7 i l (by rw [e]; exact d)⟩ ((p.Gd g f9 c6).Gd g c1 b5) b9
    refine Anx s u c (by omega) λg8 DC g4 h1 a1 g0 a3 a5 g6 w => ?_;rw [Dw, AL, Dt, AL];have c2 := p.Gd g g0 c6;cases r : EI ((AA L).drop a) with
    | some e5 =>
      obtain ⟨c7, g5⟩ := e5;rw [r] at w;obtain ⟨rfl, rfl, rfl⟩ := w;have x := Rt r;rw [yt, Bj] at x;refine By rfl ?_;obtain ⟨f4, c0, _⟩ := a3.w;obtain ⟨d0, b5⟩ := c0.Jp;refine a3.HG (b := true) λd6 c1 _ _ b9 => ?_;have e := SB (k := f) (sp := sp) (o := o) c y a0 r;refine W7 u g b4 f (n + 1) (by omega) (by omega) (by omega) (by omega) (λq => by have := x.2.2 q; omega) ⟨λj D' i l b6 d a7 a8 a9 b0 b1 => K.no j D' i l b6 (by rw [e]; exact d) a7 a8 a9 (λz => ?_) b1, λj D' b7 i l d a7 a8 a9 b0 b1 d3 => K.yes j D' b7 i l (by rw [e]; exact d) a7 a8 a9 b0 (λz => ?_) d3⟩ (c2.Gd g c1 b5) b9
      · rw [b0 z];refine a5 ?_;cases a1 with
        | false => rfl
        | true =>have := x.2.2 rfl;rw [Em (.inl (by omega))] at d;cases d; cases z
      · obtain ⟨g2, g3⟩ := b1 z;refine ⟨?_, g3⟩;rw [g2];refine a5 ?_;cases a1 with
        | false => rfl
        | true =>have := x.2.2 rfl;rw [Em (.inl (by omega))] at d;cases d
    | none =>
      rw [r] at w;obtain ⟨b3, rfl, rfl⟩ := w;have b3 := b3.symm;subst b3;obtain rfl := a5 rfl;refine AR rfl ?_;refine Anj a3 u c (by omega) λg9 DT e8 g1 a4 e6 h2 => ?_;rw [Dw, AG, Dt, AG];obtain ⟨h8, f7, _⟩ := a3.w;obtain ⟨h3, d7⟩ := f7.Jp;have d5 := c2.Gd g g1 d7;have c8 := HX (s := (AA L).drop a) (λe => by have := congrArg yI e;rw [yt, Bj] at this;have : L.length - a = 0 := this;omega);rw [yt, Bj] at c8;obtain ⟨h9, f8, _⟩ := a4.w;obtain ⟨h4, e9, _, d2, e7, _⟩ := f8.row;rw [Aj, Ad, Ae];refine C6 e9 (by decide) ?_;refine a4.pos (a4.pos (Bx (by omega) ?_));refine Zk d2 e7 (lo := a) (hi := a + (Go.Lx.B7 ((AA L).drop a)).2.1) (by omega) (by omega) c λf3 a1 b8 => ?_;rw [yH] at b8;have e4 : Bz f3 = λK => K (Go.Lx.B7 ((AA L).drop a)).2.1 := by funext K;rw [b8.len, B6, ym, yt];congr 1; omega
      rw [e4];refine gV u g b4 c8.1 (by omega) (by omega) a1 (λd9 d4 f1 => ?_) _ 0 (by omega) (Nat.zero_le _) (by rw [yq]; exact d5) a4 b8;exact K.yes d9 DT e8 a sp (GN c y a0 r) c y d4 f1 e6 (by omega)
theorem c91(c:L.length≤1000000)(d:D.length≤a)(f:a≤L.length)(s:Wd h pW fl L a D sp q){k:KV}(K:NxK h pW fl L (L.length+2) a D sp false q k):W1 (.func 91) [.ptr pW 0] h k:=by
 refine w91 (n:=2*L.length+8) AJ (g91 ?_);unfold Xq;have g:=s.n;refine BX ?_;have i:AP h (h.new Kw):=.new;have j:(h.new Kw).next.nat=h.next.nat+1:=Bd;have l:(h.new Kw).at h.next=.row (Ai Fs 0 .e) 8 0 Ci true:=AS _ _;have m:Dl (h.new Kw) h.next 0 Fs:=Dl.newRow;generalize h.new Kw=h1 at i j l m ⊢;refine BX ?_;have n:AP h1 (h1.new Is):=.new;have o:Gz h.next.nat (h1.new Is) h1.next []:=.new _ _;have p:(h1.new Is).next.nat=h1.next.nat+1:=Bd;generalize h1.new Is=h2 at n o p ⊢;have r:h.next≠h1.next:=λe=>by rw[←e] at j;omega
 have u:Hand h h2 pW h.next h1.next []:=⟨(i.trans n).Gd,⟨_,by rw[n.2 _ (by omega)];exact l⟩,by omega,vE _,o,by omega,λ_=>m.ext n (by omega)⟩;have s:=s.ext (i.trans n);generalize h.next=p1 at r u ⊢;generalize h1.next=b at r u ⊢;refine s.pos (s.l λv w=>?_);rw[w.len,B6,Gc];have fin:(L.length≤a∨bt (AA L) a=10)→(Jw W1 k (2*L.length+7)).a4 (.ptr p1 0) false false h2:=λx=>by refine qj ?_;unfold RF;obtain⟨y,f⟩:=u.row;refine(u.zero rfl).A3 rfl ?_;refine JQ f (by rfl) (by decide) λp j=>?_;obtain⟨l,f6⟩:=L3 (.row p 8 0 Ci true) s u.fr g u.l1 f;refine j.A3 rfl ?_;exact K.no _ D a sp false (Em x) x f6 l (λ_=>rfl) d
 refine F7 (λx=>?_) (λx=>By rfl (fin (.inl (of_decide_eq_true x))));have o:a<L.length:=by have:=of_decide_eq_false x;omega
 refine s.l λi n=>s.pos (Ld n o ?_);rw[show AN (vJ L[a].1.toNat) (vJ 10)=decide (L[a].1=10) from H4 _ 10 (by decide)];refine Bp (λw=>fin (.inr (by rw[MX o];exact of_decide_eq_true w))) (λw=>?_);have f:bt (AA L) a≠10:=by rw[MX o];exact of_decide_eq_false w
 refine s.l λp j=>s.pos (Ld j o ?_);rw[←MX o];refine Ex (Amj (bt (AA L) a)) ?_;rw[AL];obtain⟨l,d,_⟩:=s.w;obtain⟨t,x⟩:=d.Jp;refine Bp (λi=>?_) (λi=>?_)
 · refine s.pos (Bx (by omega) (s.setPos (b:=a+1) (Nat.le_succ _) λn w _ _ p=>?_));obtain⟨j,l,_⟩:=p.w;obtain⟨y,d⟩:=l.Jp;refine p.HG (b:=true) λa0 a1 _ _ a2=>?_;have e:=LQ (k:=L.length+1) (sp:=sp) (o:=false) o f i;exact W7 c g r (L.length+1) _ (by omega) (by omega) (by omega) o (λq=>by cases q) ⟨λa0 D' a3 a4 a5 a6=>K.no a0 D' a3 a4 a5 (by rw[e];exact a6),λa0 D' a7 a3 a4 a6=>K.yes a0 D' a7 a3 a4 (by rw[e];exact a6)⟩ ((u.Gd g w x).Gd g a1 d) a2
 refine Anx s c o (by omega) λa1 DC a2 a8 a9 b0 b1 b2 b3 b4=>?_;rw[Dw,AL,Dt,AL];have a1:=u.Gd g b0 x;refine Ass ?_;unfold Vv;cases u:EI ((AA L).drop a) with
 |some x=>
  obtain⟨a2,a8⟩:=x;rw[u] at b4;obtain⟨rfl,rfl,rfl⟩:=b4;have x:=Rt u;rw[yt,Bj] at x;refine By rfl ?_;obtain⟨j,l,_⟩:=b1.w;obtain⟨y,d⟩:=l.Jp;refine b1.HG (b:=true) λn w _ _ p=>?_;have e:=SB (k:=L.length+1) (sp:=sp) (o:=false) o f i u;refine W7 c g r (L.length+1) _ (by omega) (by omega) (by omega) (by omega) (λq=>by have:=x.2.2 q;omega) ⟨λa0 D' a3 a4 a5 a6 j y l n b3=>K.no a0 D' a3 a4 a5 (by rw[e];exact a6) j y l (λz=>?_) b3,λa0 D' a7 a3 a4 a6 j y l n b3 b0=>K.yes a0 D' a7 a3 a4 (by rw[e];exact a6) j y l n (λz=>?_) b0⟩ (a1.Gd g w d) p
  · rw[n z];refine b2 ?_;cases a9 with
    |false=>rfl
    |true=>have:=x.2.2 rfl;rw[Em (.inl (by omega))] at a6;cases a6;cases z
  · obtain⟨m,j⟩:=b3 z;refine⟨?_,j⟩;rw[m];refine b2 ?_;cases a9 with
    |false=>rfl
    |true=>have:=x.2.2 rfl;rw[Em (.inl (by omega))] at a6;cases a6
 |none=>
  rw[u] at b4;obtain⟨l,rfl,rfl⟩:=b4;have l:=l.symm;subst l;obtain rfl:=b2 rfl;refine AR rfl ?_;refine Anj b1 c o (by omega) λy DT d p w n j=>?_;rw[Dw,AG,Dt,AG];obtain⟨m,x,_⟩:=b1.w;obtain⟨l,j⟩:=x.Jp;have y:=a1.Gd g p j;have m:=HX (s:=(AA L).drop a) (λe=>by have:=congrArg yI e;rw[yt,Bj] at this;have:L.length-a=0:=this;omega);rw[yt,Bj] at m;obtain⟨l,x,_⟩:=w.w;obtain⟨j,p,_,l,a2,_⟩:=x.row;rw[Aj,Ad,Ae];refine C6 p (by decide) ?_;refine w.pos (w.pos (Bx (by omega) ?_));refine Zk l a2 (lo:=a) (hi:=a+(Go.Lx.B7 ((AA L).drop a)).2.1) (by omega) (by omega) o λj a9 x=>?_;rw[yH] at x;have p:Bz j=λK=>K (Go.Lx.B7 ((AA L).drop a)).2.1:=by funext K;rw[x.len,B6,ym,yt];congr 1;omega
  rw[p];refine iY c g r m.1 (by omega) (by omega) a9 (λl j p=>?_) _ 0 (by omega) (Nat.zero_le _) (by rw[yq];exact y) w x;exact K.yes l DT d a sp (GN o f i u) o f j p n (by omega)
end
end Go.Den
