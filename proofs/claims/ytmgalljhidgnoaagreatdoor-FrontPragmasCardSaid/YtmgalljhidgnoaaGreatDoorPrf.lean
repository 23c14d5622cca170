/-
 Proof.
-/
import Derived.Test.YtmgalljhidgnoaaGreatDoorPrc
import Derived.Test.YtmgalljhidgnoaaGreatDoorLxd
import Derived.Test.YtmgalljhidgnoaaGreatDoorPra
import Derived.Test.YtmgalljhidgnoaaGreatDoorStk
open List renaming drop_zero → yY, drop_drop → yC, nil_append → xR, length_map → s9, getElem_map → ye, length_append → o7, length_cons → l6, length_take → ym, map_cons → yU, sum_cons → zq, getElem?_eq_getElem → wq, range → xM, take_length → xu, take_add_one → yp, append_assoc → vp, length_range → zu, length_nil → yO
open Nat renaming sub_zero → we, succ_mul → wK, le_refl → vE, le_of_lt → ze, zero_le → vF, mul_le_mul_right → xb, zero_add → wJ, lt_irrefl → yd, add_assoc → wI, min_le_left → xh
open Int renaming ofNat → vJ
noncomputable section
namespace Go.Den
open Go.RowKit
open Go.Lx (Rn AA BQ El Ih Cs EI EG)
set_option maxRecDepth 100000
theorem U6(a:List UInt8):∀(j n:Nat),j≤n→(B0 a n).drop (j*(a.length+11))=B0 a (n-j)
 |0,n,_=>by rw[Nat.zero_mul,yY,we]
 |j+1,0,b=>absurd b (by omega)
 |j+1,n+1,b=>by have e:=U6 a j n (by omega);rw[wK,Nat.add_comm,←yC];show((Hu a++B0 a n).drop (a.length+11)).drop _=_;have c:(Hu a).drop (a.length+11)=[]:=List.drop_of_length_le (by rw[Gy];exact vE _);rw[List.drop_append_of_le_length (by rw[Gy];exact vE _),c,xR,e,Nat.add_sub_add_right]
theorem gv(w:List UInt8){j n:Nat}(h:j<n):(B0 w n).drop (j*(w.length+11))=Hu w++B0 w (n-j-1):=by rw[U6 w j n (ze h),show n-j=(n-j-1)+1 by omega];rfl
theorem WI{c d:List UInt8}{a kd m:Nat}{b f:Bool}(g:Go.Lx.B7 (d.drop a)=(kd,m,b))(h:0<m)(i:a+m≤d.length):Ic c (EM 0 d) a f=[.int .i64 (vJ kd),S ((d.drop a).take m),.bool f,S c,.int .i64 (vJ a),.int .i64 (vJ (a+m)),.bool false,.Af]:=by have e:AA (EM 0 d)=d:=Jm _ _;unfold Ic H5;rw[e,g];show[.int .i64 (vJ kd),S ((d.drop a).take m),.bool f]++[S c,.int .i64 (vJ (El (EM 0 d) a)),.int .i64 (vJ (Ih (EM 0 d) (a+m-1)))]++[.bool false,.Af]=_;rw[Afn (by omega),Azb (by omega),show a+m-1+1=a+m by omega];rfl
def Jf(a b:List UInt8)(c:Nat):List U:=if c%2=0 then[.int .i64 (vJ 1),S [120],.bool false,S a,.int .i64 (vJ (c / 2*(b.length+11))),.int .i64 (vJ (c / 2*(b.length+11)+1)),.bool false,.Af]
 else bN (Ch true (E2 false (b.length+2) (32::b))) a (vJ (c / 2*(b.length+11)+3)) (vJ (c / 2*(b.length+11)+9))
theorem tY(a:List UInt8)(b:List Rn)(c:List (Nat×Bool)):Lf (FD a b c) (c.map (Mp b)):=by
 refine⟨by rw[Rx,s9],λd h f=>?_⟩;have hi:d<c.length:=by rw[Rx] at h;exact h
 have g:(FD a b c)[d]=Ic a b c[d].1 c[d].2:=ye (λx:Nat×Bool=>Ic a b x.1 x.2) (h:=h);have i:(c.map (Mp b))[d]=Mp b c[d]:=ye _;rw[g,i];exact⟨_,_,_,_,_,_,rfl⟩
theorem Ri:∀(l:List (List UInt8×Bool))(f:Bool),(Ch f l).length≤(l.map λx=>x.1.length+1).sum
 |[],_=>vE _
 |x::l,f=>by
  have:=Ri l false;show((if !f&&x.2 then[32] else[])++x.1++Ch false l).length≤(x.1.length+1)+(l.map λx=>x.1.length+1).sum;rw[o7,o7];have:(if(!f&&x.2)=true then[(32:UInt8)] else[]).length≤1:=by split<;>decide
  omega
theorem Lh:∀(a:Nat)(b:List UInt8)(c:Bool),((E2 c a b).map λx=>x.1.length+1).sum≤2*b.length∧(E2 c a b).length≤b.length
 |0,b,_=>⟨vF _,vF _⟩
 |a+1,[],_=>⟨vE _,vE _⟩
 |a+1,x::r,c=>by
  unfold E2;have d:=La r;split
  · have:=Lh a r true;simp only[l6];omega
  · have:=Lh a (r.drop (Ca r)) false;have f:=List.length_drop (i:=Ca r) (l:=r);have g:((x::r).take (Ca r+1)).length=Ca r+1:=by rw[ym,l6];omega
    simp only[yU,zq,l6,g];omega
theorem tz(b:Nat)(c:List UInt8)(d:Bool)(f:Nat):(Ch true ((E2 d b c).take f)).length≤2*c.length:=by
 have a:=Ri ((E2 d b c).take f) true;have g:=(Lh b c d).1;have h:(((E2 d b c).take f).map λx=>x.1.length+1).sum≤((E2 d b c).map λx=>x.1.length+1).sum:=by
  generalize E2 d b c=l;have i:∀(l:List (List UInt8×Bool))(f:Nat),((l.take f).map λx=>x.1.length+1).sum≤(l.map λx=>x.1.length+1).sum:=by
   intro l;induction l with
   |nil=>intro f;simp
   |cons j l k=>
    intro f;cases f with
    |zero=>simp
    |succ f=>have:=k f;simp only[List.take_succ_cons,yU,zq];omega
  exact i l f
 omega
section
variable{w nm:List UInt8}{n:Nat}
theorem Ty(a:Gb w)(b:w.length≤1000){c:Nat}(hi:c<(Hv nm (B0 w n)).length):(c%2=0∧Abs (Hv nm (B0 w n))[c] (Jf nm w c))∨(c%2=1∧Aay (Hv nm (B0 w n))[c] (Jf nm w c)):=by
 obtain⟨d,f⟩:=S1 a n;have g:c<((EV (B0 w n)).map (·.1)).length:=by rw[s9,←JA nm];exact hi
 have h:c<2*n:=by omega
 have i:c / 2<n:=by omega
 have q:=f c _ (wq g);have k:(Hv nm (B0 w n))[c]=FD nm (BQ (B0 w n)) ((EV (B0 w n)).map (·.1))[c]:=by rw[hU (by rw[s9] at g;exact g) hi,ye]
 have l:=gv w i;have m:=Hb w n;have o:c / 2*(w.length+11)+(w.length+11)≤(B0 w n).length:=by rw[m,←wK];exact xb _ i
 rw[MT a n] at k;unfold PgT at q;simp only[wJ] at q;rcases q with⟨p,q⟩|⟨s,T',q,r⟩
 · refine .inl ⟨p,?_⟩;rw[q] at k;have t:Jf nm w c=[.int .i64 (vJ 1),S [120],.bool false,S nm,.int .i64 (vJ (c / 2*(w.length+11))),.int .i64 (vJ (c / 2*(w.length+11)+1)),.bool false,.Af]:=by unfold Jf;rw[if_pos p]
   have u:Ic nm (EM 0 (B0 w n)) (c / 2*(w.length+11)) false=Jf nm w c:=by rw[WI (kd:=1) (m:=1) (b:=false) (by rw[l];exact VY _) (by decide) (by omega),t,l];rfl
   refine⟨nm,vJ (c / 2*(w.length+11)),vJ (c / 2*(w.length+11)+1),?_,?_,?_,?_⟩
   · rw[k,←u];rfl
   · rw[t];exact⟨1,[120],nm,false,false,_,_,rfl,by decide,by decide,by decide⟩
   · rw[t];exact⟨1,[120],false,false,rfl⟩
   · intro v x;rw[List.mem_singleton.1 x,t];refine⟨⟨1,[120],nm,false,false,_,_,rfl,by decide,by decide,by decide⟩,λe=>?_,λe=>?_⟩
     · exact absurd (lz (Option.some.inj e)) (by decide)
     · exact absurd (lz (Option.some.inj e)) (by decide)
 · refine .inr ⟨s,?_⟩;rw[q] at k;have t:Jf nm w c=bN (Ch true (E2 false (w.length+2) (32::w))) nm (vJ (c / 2*(w.length+11)+3)) (vJ (c / 2*(w.length+11)+9)):=by unfold Jf;rw[if_neg (by omega)]
   have y:(B0 w n).drop (c / 2*(w.length+11)+2)=35::112::([114,97,103,109,97,32]++(w++[10])++B0 w (n-c / 2-1)):=by rw[←yC,l];rfl
   have b:(B0 w n).drop (c / 2*(w.length+11)+3)=112::114::97::103::109::97::32::(w++[10]++B0 w (n-c / 2-1)):=by rw[show c / 2*(w.length+11)+3=c / 2*(w.length+11)+2+1 by omega,←yC,y];rfl
   have c0:Ic nm (EM 0 (B0 w n)) (c / 2*(w.length+11)+2) false=[.int .i64 (vJ 5),S [35],.bool false,S nm,.int .i64 (vJ (c / 2*(w.length+11)+2)),.int .i64 (vJ (c / 2*(w.length+11)+2+1)),.bool false,.Af]:=by rw[WI (kd:=5) (m:=1) (b:=false) (by rw[y];exact Vs _) (by decide) (by omega),y];rfl
   have d:Ic nm (EM 0 (B0 w n)) (c / 2*(w.length+11)+3) false=[.int .i64 (vJ 1),S jQ,.bool false,S nm,.int .i64 (vJ (c / 2*(w.length+11)+3)),.int .i64 (vJ (c / 2*(w.length+11)+9)),.bool false,.Af]:=by rw[WI (kd:=1) (m:=6) (b:=false) (by rw[b];exact VJ _) (by decide) (by omega),b,show c / 2*(w.length+11)+3+6=c / 2*(w.length+11)+9 by omega];rfl
   have h:=tY nm (EM 0 (B0 w n)) T';rw[r] at h;refine⟨[.int .i64 (vJ 5),S [35],.bool false,S nm,.int .i64 (vJ (c / 2*(w.length+11)+2)),.int .i64 (vJ (c / 2*(w.length+11)+2+1)),.bool false,.Af],[.int .i64 (vJ 1),S jQ,.bool false,S nm,.int .i64 (vJ (c / 2*(w.length+11)+3)),.int .i64 (vJ (c / 2*(w.length+11)+9)),.bool false,.Af],FD nm (EM 0 (B0 w n)) T',E2 false (w.length+2) (32::w),nm,vJ (c / 2*(w.length+11)+3),vJ (c / 2*(w.length+11)+9),.int .i64 (vJ 1),S jQ,.bool false,.bool false,.Af,?_,⟨⟨_,_,_,_,_,_,rfl⟩,_,_,_,_,_,_,rfl⟩,rfl,h,?_,λj=>?_,t⟩
   · rw[k];show Ic nm (EM 0 (B0 w n)) (c / 2*(w.length+11)+2) false::Ic nm (EM 0 (B0 w n)) (c / 2*(w.length+11)+3) false::FD nm (EM 0 (B0 w n)) T'=_;rw[c0,d]
   · have:=(Lh (w.length+2) (32::w) false).2;simp only[l6] at this;omega
   · have:=tz (w.length+2) (32::w) false j;simp only[l6] at this;omega
theorem kL(a:Gb w)(b:w.length≤1000)(c:n≤400){f:Nat}(d:f≤1000000):KH nm (Hv nm (B0 w n)) (4*(2*n)+1) f (λg _ h _=>g=(xM (min (2*n) f)).map (Jf nm w)∧h=decide (f<2*n)):=by
 intro i j p k Lc l m r s u v x y;obtain⟨c,_⟩:=S1 a n;have g:(Hv nm (B0 w n)).length=2*n:=by rw[JA,←c,s9]
 refine Xm s u (Jf nm w) (by omega) (λh hi=>(Ty a b hi).imp (·.2) (·.2)) (λh hi t=>?_) d (λi j k l m c s=>?_) (Hv nm (B0 w n)).length 0 r (by omega) (vF _) (vF _) (by rw[g];exact v) x ⟨0,vE _,.nil⟩
 · rcases Ty a b (Nat.lt_of_succ_lt hi) with q|⟨_,q⟩
   · rcases Ty a b hi with u|u
     · omega
     · exact u.2
   · obtain⟨_,_,_,e,_⟩:=t;obtain⟨_,_,_,_,_,_,_,_,_,_,_,_,h,_⟩:=q;rw[e] at h;cases h
 · obtain⟨q,d,o⟩:=s;refine y i j _ k _ l m c ⟨q,by omega,o⟩ ⟨by rw[g],by rw[g]⟩
end
end Go.Den
namespace Go.Den
open Go.RowKit
set_option maxRecDepth 100000
theorem XI{a:List UInt8}(b:Gb a){x:UInt8}(c:x∈a)(n:UInt8)(d:DK n=false)(f:n≠32):x≠n:=by
 rcases b x c with q|q
 · exact Et q n d
 · rw[q];exact λe=>f e.symm
theorem c7w{a:H}{b:List UInt8}{c:KV}(h0:b≠[])(d:Gb b)(f:b.length≤999990)
 (g:∀h q t i (j:List Tok),j.map jr=E2 false (b.length+1) b→AP a h→q.nat<h.next.nat→h.at q=.row t 4 0 43 i→AY 48 8 0 h (AD t 0) (j.map Tok.cells)→c (.tuple [.slice q 0 1 4 false,.Af]) h):W1 (.func 7) [.str 3 6499937,S b] a c:=by
 refine w7 (n:=3*b.length+20) AJ (g7 ?_);unfold YD;refine uG h0 (λx k=>⟨XI d k 63 (by decide) (by decide),XI d k 92 (by decide) (by decide),XI d k 10 (by decide) (by decide)⟩) (by omega) λl m o p=>?_;refine BX ?_;have r:(b++[10]).length=b.length+1:=by simp
 have s:LS l (l.new lL) []:=by refine⟨AP.new,by rw[Bd];omega,_,AS _ _,.inl ⟨?_,rfl⟩⟩;rw[Am];rfl
 refine Lx.wd (Q:=λj=>j.map jr=E2 false (b.length+1) b) d f (b.length+1) 0 false [] (vF _) (by omega) (λT' u=>by rw[yY] at u;exact u) l m b.length (enc b) c p (by omega) (λT' v w=>?_) _ (l.new lL) (by rw[r];omega) (vF _) s;intro n y a u k;obtain⟨n,rfl⟩:∃d,n=d+3:=⟨n-3,by omega⟩;refine Afs p (by omega) (by omega) ?_ k λh q t i f j b c=>?_
 · rw[r,Nat.add_sub_cancel,DF (by omega),List.getElem_append_right (vE _)];simp
 · refine g h q t i T' w (o.trans f) j b ?_;rcases c with e|⟨m,v,d,z,l,s,_,a⟩
   · exact .inl e
   · exact .inr ⟨m,v,d,z,l,s,vF _,a⟩
theorem c7z{a:H}{b:KV}(c:∀d,AP a d→b (.tuple [.Af,.Af]) d):W1 (.func 7) [.str 3 6499937,S []] a b:=by
 refine w7 (n:=20) AJ (g7 ?_);unfold YD;have f:∀{K:KV},(∀d g,AP a d→AY 71 3 a.next.nat d g []→K g d)→W1 (.func 17) [.str ([]:List UInt8).length (enc [])] a K:=λ{K} h=>by
  refine w17 (n:=1) AJ (PY ?_);unfold Tv;refine Adr (s:=[]) (vF _) λi j k l=>?_;refine Aes (l:=[]) (vF _) l λm n o p=>?_;rw[show Ba (vJ 0) (vJ ([]:List UInt8).length)=false from rfl];refine Dm (λq=>by cases q) (λ_=>?_);refine AR rfl (h _ _ (k.trans o) ?_);rcases p with e|⟨q,t,r,z,s,e,u,v⟩
  · exact .inl e
  · exact .inr ⟨q,t,r,z,s,e,Nat.le_trans k.1 u,v⟩
 refine f λm w o x=>?_;refine BX ?_;refine ba ?_;unfold PI;rw[x.len];refine AR rfl ?_;rw[Fh];refine AR rfl ?_;refine Apk ?_;unfold Yj;exact c _ (o.trans .new)
section
variable{h:H}{v:U}{R:List (List U)}{l:List (List UInt8×Bool)}
theorem Akz(a:CI 8 h v R)(b:Lf R l)(c:l.length≤1000000)(d:∀f,(Ch true (l.take f)).length≤1000000){g:KV}(i:g (S (Ch true l)) h):
    ∀(j f:Nat),l.length-f=j→f≤l.length→(r8 W1 g (2*j+1)).a1 v (Ch true (l.take f)).length (enc (Ch true (l.take f))) (vJ f) h
  |0,f,k,hi=>by
    have e:f=l.length:=by omega
    subst e;refine Amm ?_;unfold Zj;rw[a.len,b.1,Cr,decide_eq_false (yd _)];refine AR rfl ?_;rw[xu];exact i
  |j+1,f,k,hi=>by
    have m:f<l.length:=by omega
    have n:f<R.length:=by rw[b.1];exact m
    obtain⟨p,r,t,u,w,x,e⟩:=b.2 f n m;have y:=d f;have k:=d (f+1);have p:l.take (f+1)=l.take f++[l[f]]:=by rw[yp,wq m];rfl
    have r:(l.take f).length=f:=by rw[ym];omega
    have t:=aV l[f] (l.take f);rw[←p,r] at t;rw[t,o7,o7] at k;rw[show 2*(j+1)+1=(2*j+1+1)+1 by omega];refine Amm ?_;unfold Zj;rw[a.len,b.1,Cr,decide_eq_true m];refine By rfl ?_;have u:∀{s:List UInt8},s++l[f].1=Ch true (l.take (f+1))→(r8 W1 g (2*j+1+1)).a2 v s.length (enc s) (vJ f) h:=λ{s} w=>by have x:=d (f+1);rw[←w,o7] at x;refine Ber ?_;unfold fT;refine Cy ?_;refine(a.rd n).elem n λq o _ _ y=>?_;rw[e] at y;rw[Ae];refine y.Z (j:=1) (by show 1<8;decide) ?_;show Bv (S l[f].1) _;rw[CR];refine N1 (s:=s) (t:=l[f].1) (by omega) ?_;rw[w];exact Bx (by omega) (Akz a b c d i j (f+1) (by omega) m)
    refine DR (b:=l[f].2) (λp r=>?_) ?_
    · refine Cy ?_;refine(a.rd n).elem n λq o _ _ y=>?_;rw[e] at y;rw[Ae];refine y.Z (j:=2) (by show 2<8;decide) ?_;show Be (.bool l[f].2) _;rw[AL];exact r
    · rw[show Ba (vJ 0) (vJ f)=decide (0<f) from Cr _ _];refine Bp (λq=>?_) (λq=>?_)
      · rw[q] at k t;refine N1 (s:=Ch true (l.take f)) (t:=[32]) (by simp only[List.length_singleton];omega) ?_;refine u ?_;rw[t,vp];rfl
      · rw[q] at t;refine u ?_;rw[t];rfl
theorem c8(a:CI 8 h v R)(b:Lf R l)(c:l.length≤1000000)(d:∀f,(Ch true (l.take f)).length≤1000000){g:KV}(i:g (S (Ch true l)) h):W1 (.func 8) [v] h g:=by refine w8 (n:=2*l.length+1+1) AJ (g8 ?_);unfold fO;exact Akz a b c d i l.length 0 (by omega) (vF _)
end
theorem sZ(a:List Tok):Lf (a.map Tok.cells) (a.map jr):=by refine⟨by rw[s9,s9],λb c d=>?_⟩;rw[ye,ye];exact⟨_,_,_,_,_,_,rfl⟩
end Go.Den
namespace Go.Den
open Go.RowKit
open Go.Lx (Rn AA BQ)
set_option maxRecDepth 100000
theorem Ayk{a b:Nat}{K:Int→Prop}(c:0<b):U5 (vJ a) (vJ b) K=K (vJ (a%b)):=by unfold U5;rw[DB,decide_eq_false (show¬b=0 by omega)];show fI (vJ (a%b)) K=_;rw[BW]
def T6(w:List UInt8):List UInt8:=Ch true (E2 false (w.length+1) w)
theorem Afk(w:List UInt8):Ch true (E2 false (w.length+2) (32::w))=T6 w:=by have e:E2 false (w.length+2) (32::w)=E2 true (w.length+1) w:=rfl;rw[e,Akd _ _ true false];rfl
theorem Aae{a:List UInt8}(b:Gb a){n j:Nat}(c:j<n):Kt (vJ (j*(a.length+11)+3)) (vJ (j*(a.length+11)+9)) (Cm (B0 a n))=[112,114,97,103,109,97]:=by rw[ZP (cF b n),mT,we,←yC,gv a c,show j*(a.length+11)+9-max (j*(a.length+11)+3) 0=6 by omega];rfl
section
variable{hB:H}{p4:P}{vt vd vf va:U}{st:Bool}{w:List UInt8}{n M:Nat}{k:KV}
theorem Ame(u:∀(d:H)(k:KV),k (.bool true) d→W1 (.func 4) [] d k)(a4:Gb w)(b0:w.length≤60)(a3:n≤20)(t:AH hB p4 34 [vt,vd,vf,va,.bool st])(a5:p4.nat<hB.next.nat)(m:CI 8 hB vt ((xM M).map (Jf GR w)))(a8:M≤2*n)(a2:∀d,k (.bool true) d):
    ∀(h a N:Nat){d:H},M-a=h→a≤M→2*h+1≤N→AP hB d→(r3 W1 k N).a3 (B0 w n).length (enc (B0 w n)) (.ptr p4 0) (T6 w).length (enc (T6 w)) (vJ a) d
  |h,a,N,d,b6,hi,b5,f=>by
    obtain⟨N,rfl⟩:∃x,N=x+1:=⟨N-1,by omega⟩;have a0:((xM M).map (Jf GR w)).length=M:=by rw[s9,zu]
    have a6:∀{b:H}{K:U→Prop},AP hB b→K vt→(Ac 0 (.ptr p4 0) λb2=>Z b2 b K):=λ{b K} i j=>by rw[Ae];exact(t.ext i a5).Z (j:=0) (by show 0<5;decide) j
    have sl:=Hb w n;have b1:(B0 w n).length≤1000000:=by have:n*(w.length+11)≤20*(w.length+11):=xb _ a3;omega
    refine Bci ?_;unfold jg;refine a6 f ?_;rw[m.len,a0,Cr];by_cases p:a<M
    · rw[decide_eq_true p];refine By rfl ?_;have a1:a<((xM M).map (Jf GR w)).length:=by rw[a0];exact p
      have a7:((xM M).map (Jf GR w))[a]=Jf GR w a:=by rw[ye,List.getElem_range]
      have g:∀{b:H}{K:U→Prop},AP hB b→(∀q o,Dl b q o (Jf GR w a)→K (.ptr q o))→(Ac 0 (.ptr p4 0) λv=>Z v b λv=>Bo (vJ a) λh=>A7 8 h v K):=λ{b K} i j=>a6 i (Cy (((m.ext i).rd a1).elem a1 λq o _ _ c=>j q o (by rw[a7] at c;exact c)));have y:∀{b:H},AP hB b→(r3 W1 k N).a6 (B0 w n).length (enc (B0 w n)) (.ptr p4 0) (T6 w).length (enc (T6 w)) (vJ a) b:=λ{b} i=>by obtain⟨N,rfl⟩:∃x,N=x+1:=⟨N-1,by omega⟩;refine Bgu ?_;unfold gg;exact Bx (by omega) (Ame u a4 b0 a3 t a5 m a8 a2 (M-(a+1)) (a+1) N rfl (by omega) (by omega) i)
      have s:∀{K:Int→Prop},K (vJ (a%2))→U5 (vJ a) (vJ 2) K:=λ{K} j=>by rw[Ayk (by decide)];exact j
      refine s ?_;rw[DB];by_cases l:a%2=0
      · rw[decide_eq_true l];have r:Jf GR w a=[.int .i64 (vJ 1),S [120],.bool false,S GR,.int .i64 (vJ (a / 2*(w.length+11))),.int .i64 (vJ (a / 2*(w.length+11)+1)),.bool false,.Af]:=by unfold Jf;rw[if_pos l]
        rw[r] at g;refine Dm (λ_=>?_) (λq=>by cases q);refine g f λq o c=>?_;rw[Ae];refine c.Z (j:=1) (by show 1<8;decide) ?_;show Bv (S [120]) _;rw[CR];refine F7 (λ_=>?_) (λq=>by cases q);refine s ?_;rw[DB,decide_eq_false (show¬a%2=1 by omega)];refine Dm (λq=>by cases q) (λ_=>?_);exact AR rfl (y f)
      · rw[decide_eq_false l];have a9:a / 2<n:=by omega
        have r:Jf GR w a=bN (T6 w) GR (vJ (a / 2*(w.length+11)+3)) (vJ (a / 2*(w.length+11)+9)):=by unfold Jf;rw[if_neg l,Afk]
        rw[r] at g;refine Dm (λq=>by cases q) (λ_=>?_);refine F7 (λ_=>?_) (λq=>by cases q);refine s ?_;rw[DB,decide_eq_true (show a%2=1 by omega)];refine Dm (λ_=>?_) (λq=>by cases q);refine g f λq o c=>?_;rw[Ae];refine c.Z (j:=0) (by show 0<8;decide) ?_;show Ar .i64 (.int .i64 (vJ 7)) _;rw[AG];refine F7 (λ_=>?_) (λq=>by cases q);refine g f λq o c=>?_;rw[Ae];refine c.Z (j:=1) (by show 1<8;decide) ?_;show Bv (S (T6 w)) _;rw[CR,Y3];refine F7 (λ_=>?_) (λq=>by cases q);refine g f λq o c=>?_;rw[Ae,Ae,wI];refine c.Z (j:=3+1) (by show 3+1<8;decide) ?_;show Ar .i64 (.int .i64 (vJ (a / 2*(w.length+11)+3))) _;rw[AG];refine g f λq o c=>?_;rw[Ae,Ae,wI];refine c.Z (j:=3+2) (by show 3+2<8;decide) ?_;show Ar .i64 (.int .i64 (vJ (a / 2*(w.length+11)+9))) _;rw[AG];refine c9 b1 λb4 b3=>?_;rw[Aae a4 a9];show Bv (S [112,114,97,103,109,97]) _;rw[CR];refine AR rfl (y (f.trans b3))
    · rw[decide_eq_false p];refine AR rfl ?_;refine u _ _ ?_;rw[AL];exact a2 _
  termination_by h=>h
end
end Go.Den
noncomputable section
namespace Go.Den
open Go.RowKit
open Go.Lx (Rn AA BQ)
set_option maxRecDepth 100000
theorem Asv(f:Nat)(h:H):AF env (env.ty TCg) [(1,.int .i64 (vJ 1)),(2,.int .i64 (vJ f))] h=some (.agg [.Af,.int .i64 (vJ 1),.int .i64 (vJ f)],h):=by kernel_rfl
theorem Aum(a b c d:Nat)(h:H):AF env (env.ty 28) [(0,.str a b),(1,.str c d)] h=some (.agg [.str a b,.str c d],h):=by kernel_rfl
def ZFp:Tm:=Ai [.str 0 0,.str 0 0] 0 .e
theorem Aqr(a b:U)(c:H):AE env 29 (λt d=>Ap 1 [(0,.agg [a,b])] c t d)=some (.slice c.next 0 1 2 true,c.new (.row (Ai [a,b] 0 ZFp) 2 0 28 true)):=by kernel_rfl
theorem Acv{a:H}{e:TypeId}{ds:List U}{sz:Nat}{t:Tm}{b:Bool}(c:ds.length=sz):Rd sz (a.new (.row (Ai ds 0 t) sz 0 e b)) (.slice a.next 0 1 sz true) [ds]:=by have r:=E5.app (t:=t) (E5.nil (sz:=sz) (o:=0)) c;rw[show([]:List (List U)).length*sz=0 by simp,xR] at r;exact .row a.next 0 _ sz 0 e b true rfl (by rw[Bd];omega) (AS _ _) (by simp) r
theorem Bes(a b:Nat)(h:H):AB env .min [3,3] [.int .i64 (vJ a),.int .i64 (vJ b)] h=some (.int .i64 (vJ (min a b)),h):=by
 have e:AB env .min [3,3] [.int .i64 (vJ a),.int .i64 (vJ b)] h=some (.int .i64 (Bool.rec (vJ a) (vJ b) (Ba (vJ b) (vJ a))),h):=by kernel_rfl
 rw[e,Cr];by_cases c:b<a
 · rw[decide_eq_true c,Nat.min_eq_right (ze c)]
 · rw[decide_eq_false c,Nat.min_eq_left (Nat.le_of_not_lt c)]
theorem Bcw(b:Bool):Dh env .neq 4 (.bool b) (.bool b)=some (.bool false):=by cases b<;>kernel_rfl
theorem Bgf{n:Nat}(h:n≤1000000):wrap .i64 ((vJ 2)*(vJ n))=vJ (2*n):=by rw[show(vJ 2)*(vJ n)=vJ (2*n) from rfl,C9 (by omega)]
section
variable{w:List UInt8}{k:KV}{a b:Int}
theorem Ala(c:∀(d:H)(k:KV),k (.bool true) d→W1 (.func 4) [] d k)(f:∀d,k (.bool true) d)(g:w.length≤60){d:H}{n0:Nat}(h:Gb w→(r3 W1 k (0+n0)).a1 a w.length (enc w) b (vJ w.length) d):
    ∀(i j:Nat),w.length-j=i→j≤w.length→Gb (w.take j)→(r3 W1 k (i+n0)).a1 a w.length (enc w) b (vJ j) d
  |0,j,l,hi,m=>by
    have e:j=w.length:=by omega
    subst e;rw[xu] at m;exact h m
  |i+1,j,l,hi,m=>by
    have n:j<w.length:=by omega
    rw[show i+1+n0=(i+n0)+1 by omega];refine Anf ?_;unfold Zg;rw[Cr,decide_eq_true n];refine By rfl ?_;refine Cy (Ev n ?_);rw[Cr];refine G8 (b:=decide (122<w[j].toNat)) (λo p=>Cy (Ev n (by rw[Cr];exact p))) ?_;refine DR (b:=!decide (w[j]=UInt8.ofNat 32)) (λo p=>Cy (Ev n (by rw[Pv _ 32 (by decide),show∀b,Bm b=!b from λb=>by cases b<;>rfl];exact p))) ?_;refine Bp (λe=>?_) (λe=>?_)
    · refine c _ _ ?_;rw[AL];exact f _
    · refine Bx (by omega) (Ala c f g h i (j+1) (by omega) n ?_);have r:w.take (j+1)=w.take j++[w[j]]:=by rw[yp,wq n];rfl
      rw[r];intro s t;rcases List.mem_append.1 t with q|q
      · exact m s q
      · have q:s=w[j]:=by simpa using q
        rw[q];by_cases u:w[j]=32
        · exact .inr u
        · have v:¬w[j]=UInt8.ofNat 32:=u;rw[decide_eq_false v] at e;simp only[Bool.not_false,Bool.and_true,Bool.or_eq_false_iff,decide_eq_false_iff_not] at e;left;unfold DK;rw[decide_eq_true (show 97≤w[j].toNat by omega),decide_eq_true (show w[j].toNat≤122 by omega)];rfl
theorem Apr{n:Nat}(a:w.length≤60)(c:n≤20){d:H}{n0:Nat}(f:(r3 W1 k (0+n0)).a2 (vJ n) w.length (enc w) b (B0 w n).length (enc (B0 w n)) (vJ n) d):
    ∀(g h:Nat),n-h=g→h≤n→(r3 W1 k (g+n0)).a2 (vJ n) w.length (enc w) b (B0 w h).length (enc (B0 w h)) (vJ h) d
  |0,h,i,hi=>by
    have e:h=n:=by omega
    subst e;exact f
  |g+1,h,i,hi=>by
    have j:h<n:=by omega
    have sl:=Hb w h;have:h*(w.length+11)≤20*(w.length+11):=xb _ (by omega);rw[show g+1+n0=(g+n0)+1 by omega];refine Aot ?_;unfold Zn;rw[Cr,decide_eq_true j];refine By rfl ?_;refine N1 (s:=B0 w h) (t:=[120,10,35,112,114,97,103,109,97,32]) (by simp only[l6,yO];omega) ?_;refine N1 (s:=B0 w h++[120,10,35,112,114,97,103,109,97,32]) (t:=w) (by simp only[o7,l6,yO];omega) ?_;refine N1 (s:=B0 w h++[120,10,35,112,114,97,103,109,97,32]++w) (t:=[10]) (by simp only[o7,l6,yO];omega) ?_;have e:B0 w h++[120,10,35,112,114,97,103,109,97,32]++w++[10]=B0 w (h+1):=by show _=Hu w++B0 w h;rw[←OG];unfold Hu;simp only[vp]
    rw[e];exact Bx (by omega) (Apr a c f g (h+1) (by omega) j)
theorem c3(d:∀(g:H)(k:KV),k (.bool true) g→W1 (.func 4) [] g k){g:H}(h:G≤g.next.nat)(i:∀g,k (.bool true) g):W1 (.func 3) [.int .i64 a,S w,.int .i64 b] g k:=by
 obtain⟨N,j⟩:∃N:Nat,81≤N:=⟨81,vE _⟩;refine w3 (n:=(w.length+(a.toNat+(N+3)+1))+1) AJ (g3 ?_);unfold gz;refine G8 (b:=Ba (vJ 20) a) (λl m=>m) ?_;refine G8 (b:=Ba (vJ 60) (vJ w.length)) (λl m=>m) ?_;refine G8 (b:=Ba b (vJ 0)) (λl m=>m) ?_;refine G8 (b:=Ba (vJ 60) b) (λl m=>m) ?_;refine Bp (λ_=>?_) (λe=>?_)
 · refine d _ _ ?_;rw[AL];exact i _
 simp only[Ge,Bool.or_eq_false_iff,decide_eq_false_iff_not] at e;obtain⟨⟨⟨⟨o,p⟩,r⟩,s⟩,u⟩:=e;have o:¬a<0:=o;have p:¬(20:Int)<a:=p;have r:¬(60:Int)<(w.length:Int):=r;have s:¬b<0:=s;have u:¬(60:Int)<b:=u;obtain⟨n,rfl⟩:∃n:Nat,a=vJ n:=⟨a.toNat,by show a=(a.toNat:Int);omega⟩;obtain⟨f,rfl⟩:∃f:Nat,b=vJ f:=⟨b.toNat,by show b=(b.toNat:Int);omega⟩;have p:¬(20:Int)<(n:Int):=p;have u:¬(60:Int)<(f:Int):=u;have v:n≤20:=by omega
 have x:f≤60:=by omega
 have y:w.length≤60:=by omega
 rw[show(vJ n).toNat=n from rfl];refine Ala d i y (n0:=n+(N+3)+1) (λh=>?_) w.length 0 (by omega) (vF _) (λj l=>by rw[List.take_zero] at l;cases l);rw[wJ];refine Anf ?_;unfold Zg;rw[Cr,decide_eq_false (yd _)];refine AR rfl ?_;refine Apr y v (n0:=N+3) ?_ n 0 (by omega) (vF _);rw[wJ];refine Aot ?_;unfold Zn;rw[Cr,decide_eq_false (yd _)];refine AR rfl ?_;have sl:=Hb w n;have m:n*(w.length+11)≤20*(w.length+11):=xb _ v;rw[Aum,Ad,Aqr,Ad];have o:Rd 2 (g.new (.row (Ai [.str 3 6499937,.str (B0 w n).length (enc (B0 w n))] 0 ZFp) 2 0 28 true)) (.slice g.next 0 1 2 true) [[.str 3 6499937,.str (B0 w n).length (enc (B0 w n))]]:=Acv rfl;have r:AP g (g.new (.row (Ai [.str 3 6499937,.str (B0 w n).length (enc (B0 w n))] 0 ZFp) 2 0 28 true)):=.new;generalize g.new (.row (Ai [.str 3 6499937,.str (B0 w n).length (enc (B0 w n))] 0 ZFp) 2 0 28 true)=h1 at o r ⊢;rw[sA] at o;have s:=r.1;refine c5k (by omega) o (by omega) λp u x j l m g=>?_;rw[Dw,Dt,VS,AL];refine AR rfl ?_;rw[Asv,Ad];rw[sA];have s:=r.1;have j:=m.1;refine Aqw (kL (nm:=GR) h (by omega) (by omega) (f:=f) (by omega)) (by omega) (cL h n) g (by show(if GR=GR then some (B0 w n) else _)=_;rw[if_pos rfl]) (by omega) (by decide) (by decide) (by decide) (by omega) λl o p u x s r j m g a0 d3 q a1 a2=>?_;obtain⟨rfl,rfl⟩:=q;refine newRow (e:=34) (cs:=[.Af,.Af,.Af,.Af,.bool false]) rfl λg j m r=>?_;refine r.CV (o:=0) (ds:=[o,p,u,x,.bool (decide (f<2*n))]) (cs':=[o,p,u,x,.bool (decide (f<2*n))]) rfl (by decide) (by simp) rfl λg m f5 r5=>?_;have r:AP l g:=j.Gr (vE _) m f5;have V5:CI 8 g o ((xM (min (2*n) f)).map (Jf GR w)):=by exact CI.ext a0.n.rd' r
 rw[Ae];refine r5.Z (j:=0) (by show 0<5;decide) ?_;show Bz o _;rw[V5.len,s9,zu,Bgf (by omega),BW,Bes,Ad,AG,DB,decide_eq_true rfl];refine F7 (λ_=>?_) (λq=>by cases q);rw[Ae];refine r5.Z (j:=4) (by show 4<5;decide) ?_;show Be (.bool (decide (f<2*n))) _;rw[AL,BW,Cr,Bcw,Gn,AL];refine AR rfl ?_;have fin:∀{p:H}{N':Nat},N≤N'→AP g p→(r3 W1 k (N'+1)).a4 (B0 w n).length (enc (B0 w n)) (.ptr l.next 0) (T6 w).length (enc (T6 w)) p:=λ{p N'} u x=>by refine Bem ?_;unfold fD;exact Ame (n:=n) (M:=min (2*n) f) d h y v r5 (by rw[m];omega) V5 (xh _ _) i _ 0 N' rfl (vF _) (by have:=xh (2*n) f;omega) x
 rw[←sA];by_cases c:w=[]
 · subst c;refine c7z λp x=>?_;rw[Dw,Dt,Fh];refine Apg ?_;unfold bM;refine AR rfl ?_;exact fin (by omega) x
 · refine c7w c h (by omega) λp q t j s r x o g l=>?_;rw[Dw,Dt,Oi];refine Apg ?_;unfold bM;refine By rfl ?_;refine N2 Nat.one_pos ?_;rw[Ae];refine C6 (o:=0+0*4+0) g (by decide) ?_;have u:=sZ s;rw[r] at u;have d:=(Lh (w.length+1) w false);refine c8 l.rd' u (by omega) (λm=>by have:=tz (w.length+1) w false m;omega) ?_;show Bv (S (T6 w)) _;rw[CR];exact fin (by omega) x
end
end Go.Den
