/-
 Proof.
-/
import Derived.Test.YtmgalljhidgnoaaGreatDoorLpx
import Derived.Test.YtmgalljhidgnoaaGreatDoorSml
import Derived.Test.YtmgalljhidgnoaaGreatDoorLpj
import Derived.Test.YtmgalljhidgnoaaGreatDoorBkb
import Derived.Test.YtmgalljhidgnoaaGreatDoorIst
open List renaming getD_eq_getElem?_getD → vM, mem_cons_self → yS, mem_cons_of_mem → xK, length_map → s9, drop_zero → yY, take_zero → yq, length_take → ym, length_drop → yt, getElem_take → yP, getElem_drop → yQ, getElem_cons_succ → vD, getElem_cons_zero → vz
open Nat renaming not_lt_zero → vH, le_refl → vE, beq → vS, ble_eq_true_of_le → wY, beq_refl → wZ, lt_irrefl → yd
open Int renaming ofNat → vJ, ofNat_le → zb
open Bool renaming and_eq_true → vK, false_ne_true → zc
namespace Go.Den
open Go.RowKit
open Go.Lx (Rn AA BQ Bi Co El Ih Dp DO Gg IP HA EG Ey Cs Np)
set_option maxRecDepth 100000
theorem Avo(x:UInt8)(s:List UInt8)(j:Nat):Cs (x::s) (j+1)=Cs s j:=by unfold Cs;rfl
theorem kQ(s:List UInt8)(k j:Nat):Cs (s.drop k) j=Cs s (k+j):=by unfold Cs;rw[vM,vM,List.getElem?_drop]
def EM:Nat→List UInt8→List Rn
 |_,[]=>[]
 |i,x::s=>(x,i,i+1)::EM (i+1) s
theorem Nl:∀(s:List UInt8)(i:Nat),(EM i s).length=s.length
 |[],_=>rfl
 |x::s,i=>by show(EM (i+1) s).length+1=s.length+1;rw[Nl s (i+1)]
theorem Jm:∀(s:List UInt8)(i:Nat),AA (EM i s)=s
 |[],_=>rfl
 |x::s,i=>by show x::AA (EM (i+1) s)=_;rw[Jm s (i+1)]
theorem Z6:∀(a:List UInt8)(b j:Nat)(c:j<a.length),(EM b a)[j]? =some (a[j],b+j,b+j+1)
 |[],_,_,c=>absurd c (vH _)
 |x::a,b,0,_=>rfl
 |x::a,b,j+1,c=>by
  have d:j<a.length:=by simpa using c
  show(EM (b+1) a)[j]? =some (a[j],b+(j+1),b+(j+1)+1);rw[Z6 a (b+1) j d,show b+1+j=b+(j+1) by omega]
theorem UR:∀(b:List UInt8)(c:Nat),(∀x∈b,x≠63)→Bi c b=EM c b
 |[],_,_=>rfl
 |[_],_,_=>rfl
 |[_,_],_,_=>rfl
 |a::d::f::r,c,g=>by unfold Bi;rw[if_neg (λe=>g a yS e.1),UR (d::f::r) (c+1) λx h=>g x (xK _ h)];rfl
theorem iW:∀(l:List Rn),(∀x∈l,x.1≠92)→Co l=l
 |[],_=>rfl
 |[_],_=>rfl
 |x::a::r,b=>by unfold Co;rw[if_neg (λe=>b x yS e.1),iW (a::r) λz c=>b z (xK _ c)]
theorem ur{s:List UInt8}{i:Nat}{x:Rn}(h:x∈EM i s):x.1∈s:=by have:=List.mem_map_of_mem (f:=λr:Rn=>r.1) h;have e:=Jm s i;unfold AA at e;rw[e] at this;exact this
abbrev mL(L:List Rn)(a:Nat):Nat:=(Go.Lx.B7 ((AA L).drop a)).2.1
theorem Aht(n:Nat)(a:List SU):(Ng n a).map (·.1)=a.map (·.1):=by
 unfold Ng;split
 · rename_i b c;rw[List.map_set];obtain⟨d,e⟩:=List.getElem?_eq_some_iff.1 c;have:(a.map (·.1))[a.length-1]'(by rw[s9];exact d)=b.1:=by rw[List.getElem_map,e]
   show(a.map (·.1)).set (a.length-1) b.1=_;rw[←this,List.set_getElem_self]
 · rfl
theorem lz{a t:List UInt8}(b:S a=S t):a=t:=by have b:U.str a.length (enc a)=U.str t.length (enc t):=b;injection b with c d;exact Nz c d
end Go.Den
namespace Go.Den
open Go.RowKit
open Go.Lx (Rn AA BQ Bi Co El Ih Cs)
set_option maxRecDepth 100000
def GR:List UInt8:=[97,46,99]
theorem sA:(.str 3 6499937:U)=S GR:=by kernel_rfl
theorem mT:∀(a:List UInt8)(b f t:Nat),Kt (vJ f) (vJ t) (EM b a)=(a.drop (f-b)).take (t-max f b)
 |[],b,f,t=>by simp[EM,Kt]
 |x::a,b,f,t=>by
  have c:=mT a (b+1) f t;have e:Kt (vJ f) (vJ t) (EM b (x::a))=(if f≤b∧b+1≤t then[x] else[])++Kt (vJ f) (vJ t) (EM (b+1) a):=by
   show Kt (vJ f) (vJ t) ((x,b,b+1)::EM (b+1) a)=_;unfold Kt;by_cases d:f≤b∧b+1≤t
   · rw[if_pos d,List.filter_cons_of_pos (by unfold inR;rw[vK];exact⟨decide_eq_true (zb.2 d.1),decide_eq_true (zb.2 d.2)⟩)];rfl
   · rw[if_neg d,List.filter_cons_of_neg (by unfold inR;rw[vK];intro q;exact d ⟨zb.1 (of_decide_eq_true q.1),zb.1 (of_decide_eq_true q.2)⟩)];rfl
  rw[e,c];by_cases g:f≤b
  · rw[show f-b=0 by omega,show f-(b+1)=0 by omega,show max f b=b by omega,show max f (b+1)=b+1 by omega,yY,yY];by_cases h:b+1≤t
    · rw[if_pos ⟨g,h⟩,show t-b=(t-(b+1))+1 by omega,List.take_succ_cons];rfl
    · rw[if_neg λq=>h q.2,show t-b=0 by omega,show t-(b+1)=0 by omega,yq,yq];rfl
  · rw[if_neg λq=>g q.1,show f-b=(f-(b+1))+1 by omega,List.drop_succ_cons,show max f b=max f (b+1) by omega];rfl
end Go.Den
namespace Go.Den
open Go.RowKit
set_option maxRecDepth 100000
theorem Abg{a:H}{b:List UInt8}{c:U}{d:KV}(f:b.length≤1000000)(g:Rs a c b)(h:∀i,AP a i→d (S b) i):∀(n j:Nat){k:H}{v:U},b.length-j<n→j≤b.length→AP a k→AY TB 1 a.next.nat k v (eb (b.take j))→(Ys W1 d n).a1 c v (vJ j) k
 |0,_,_,_,l,_,_,_=>absurd l (vH _)
 |n+1,j,k,v,l,hi,m,o=>by
  refine Axn ?_;unfold Wq;have p:=g.ext m;rw[p.len,Cr];refine Bp (λe=>?_) (λe=>?_)
  · have e:j<b.length:=of_decide_eq_true e;rw[Cu];refine p.Cs e ?_;unfold ub;rw[AG];refine UB o (by rw[ym];omega) m.1 λq i r s=>?_;rw[Ep,C9 (by omega),BW];refine Abg f g h n (j+1) (by omega) e (m.kp (vE _) s) ?_;rw[List.take_succ_eq_append_getElem e];exact r
  · have e:j=b.length:=by have:=of_decide_eq_false e;omega
    subst e;rw[List.take_length] at o;rw[SY o,Ad];exact h _ m
theorem c21{a:List UInt8}{b:U}{c:H}{d:KV}(f:a.length≤1000000)(g:Rs c b a)(h:∀h',AP c h'→d (S a) h'):W1 (.func 21) [b] c d:=by refine w21 (n:=a.length+2) AJ (g21 ?_);unfold XD;exact Abg f g h _ 0 (by omega) (Nat.zero_le _) AP.refl (.inl ⟨rfl,rfl⟩)
def LP(B:List UInt8)(i:Nat):Int:=
 if decide (bt B i=34)||decide (bt B i=39) then vJ 0
 else if(decide (bt B i=117)&&decide (bt B (i+1)=56))&&decide (bt B (i+2)=34) then vJ 2
 else if((decide (bt B i=76)||decide (bt B i=117))||decide (bt B i=85))&&(decide (bt B (i+1)=34)||decide (bt B (i+1)=39)) then vJ 1
 else Int.negSucc 0
theorem IM(x:UInt8)(n:Nat)(a:UInt8)(b:a.toNat=n):AN (vJ x.toNat) (vJ n)=decide (x=a):=by subst b;exact TN x a
theorem c44{a:H}{v:U}{b:List UInt8}{i:Nat}{c:KV}(d:Rs a v b)(hi:i≤1000000)(f:c (.int .i64 (LP b i)) a):W1 (.func 44) [v,.int .i64 (vJ i)] a c:=by
 refine w44 (n:=1) AJ (g44 ?_);unfold V9;refine RK d ?_;unfold ub;rw[AG];refine Tw ?_;rw[IM _ 34 34 rfl,IM _ 39 39 rfl];unfold LP at f;refine Bp (λe=>?_) (λe=>?_)
 · rw[if_pos e] at f;exact f
 rw[if_neg (by rw[e];exact zc)] at f;refine DR (b:=decide (bt b (i+1)=56)) (λg h=>?_) ?_
 · rw[Ep,C9 (by omega),BW];refine RK d ?_;unfold ub;rw[AG,IM _ 56 56 rfl];exact h
 refine DR (b:=decide (bt b (i+2)=34)) (λg h=>?_) ?_
 · rw[Ep,C9 (by omega),BW];refine RK d ?_;unfold ub;rw[AG,IM _ 34 34 rfl];exact h
 rw[IM _ 117 117 rfl];refine Bp (λe=>?_) (λe=>?_)
 · rw[if_pos e] at f;exact f
 rw[if_neg (by rw[e];exact zc)] at f;refine Tw ?_;refine Tw ?_;refine DR (b:=(decide (bt b (i+1)=34)||decide (bt b (i+1)=39))) (λg h=>?_) ?_
 · rw[Ep,C9 (by omega),BW];refine RK d ?_;unfold ub;rw[AG];refine G8 (b:=decide (bt b (i+1)=39)) (λj k=>?_) ?_
   · rw[BW];refine RK d ?_;unfold ub;rw[AG,IM _ 39 39 rfl];exact k
   rw[IM _ 34 34 rfl];exact h
 rw[IM _ 76 76 rfl,IM _ 85 85 rfl];refine Bp (λe=>?_) (λe=>?_)
 · rw[if_pos e] at f;exact f
 · rw[if_neg (by rw[e];exact zc)] at f;exact f
theorem Agf{a:H}{v:U}{b:List UInt8}{c:Nat}{d:KV}(f:Rs a v b)(hi:c≤1000000)(g:bt b c≠47∨(bt b (c+1)≠47∧bt b (c+1)≠42))(h:d (.tuple [.int .i64 (vJ c),.bool false]) a):W1 (.func 19) [v,.int .i64 (vJ c)] a d:=by
 refine w19 (n:=1) AJ (g19 ?_);unfold XL;refine RK f ?_;unfold ub;rw[AG,IM _ 47 47 rfl];refine Bp (λe=>h) (λe=>?_);have e:bt b c=47:=by
  by_cases i:bt b c=47
  · exact i
  · rw[show Bm (decide (bt b c=47))=true by rw[decide_eq_false i];rfl] at e;cases e
 have g:bt b (c+1)≠47∧bt b (c+1)≠42:=by
  rcases g with g|g
  · exact absurd e g
  · exact g
 rw[Ep,C9 (by omega),BW];refine RK f ?_;unfold ub;rw[AG,IM _ 47 47 rfl,decide_eq_false g.1];refine AR rfl ?_;rw[BW];refine RK f ?_;unfold ub;rw[AG,IM _ 42 42 rfl,decide_eq_false g.2];exact By rfl h
end Go.Den
noncomputable section
namespace Go.Den
open Go.RowKit
set_option maxRecDepth 100000
theorem lM(l c:Nat)(a b:Int)(h:H):AF env (env.ty 45) [(0,.str l c),(1,.int .i64 a),(2,.int .i64 b)] h=some (.agg [.str l c,.int .i64 a,.int .i64 b],h):=by kernel_rfl
theorem sR(a:Int)(l c:Nat)(b:Bool)(x y z:U)(h:H):AF env (env.ty 48) [(0,.int .i64 a),(1,.str l c),(2,.bool b),(3,.agg [x,y,z])] h=some (.agg [.int .i64 a,.str l c,.bool b,x,y,z,.bool false,.Af],h):=by kernel_rfl
theorem Acm(a:Int)(h:H):AF env (env.ty 43) [(1,.int .i64 a)] h=some (.agg [.Af,.int .i64 a,.int .i64 (.ofNat 0),.bool false],h):=by kernel_rfl
def tH:Tm:=Ai [.int .i64 (.ofNat 0),.str 0 0,.bool false,.str 0 0,.int .i64 (.ofNat 0),.int .i64 (.ofNat 0),.bool false,.Af] 0 .e
theorem qq(a b c d e f g h:U)(i:H):AE env 30 (λt j=>Ap 1 [(0,.agg [a,b,c,d,e,f,g,h])] i t j)=some (.slice i.next 0 1 8 true,i.new (.row (Ai [a,b,c,d,e,f,g,h] 0 tH) 8 0 48 true)):=by kernel_rfl
theorem Acr(x y:U)(h:H):AB env .append [30,30] [x,y] h=BK (some false) x y h 48 (DS 48):=by kernel_rfl
theorem Ajm:(DS 48).size=8:=by kernel_rfl
theorem jq{n:Nat}(a:n≤1099511627776):Bl (DS 48) n=true:=G1 (by kernel_rfl) (by kernel_rfl) a
def oA:Tm:=Ai [.Af,.int .i64 (.ofNat 0),.int .i64 (.ofNat 0),.bool false] 0 .e
theorem Abv(a b c d:U)(f:H):AE env 38 (λt g=>Ap 1 [(0,.agg [a,b,c,d])] f t g)=some (.slice f.next 0 1 4 true,f.new (.row (Ai [a,b,c,d] 0 oA) 4 0 43 true)):=by kernel_rfl
theorem ou(x y:U)(h:H):AB env .append [38,38] [x,y] h=BK (some false) x y h 43 (DS 43):=by kernel_rfl
theorem Akt:(DS 43).size=4:=by kernel_rfl
theorem kE{n:Nat}(a:n≤1099511627776):Bl (DS 43) n=true:=G1 (by kernel_rfl) (by kernel_rfl) a
theorem ow{q:P}{o n lo hi:Nat}{a:Bool}{b:H}(c:lo≤hi)(d:hi≤n):slice3 env b 68 (.slice q o n 3 a) (some (some lo)) (some (some hi)) none=some (.slice q (o+lo*3) (hi-lo) 3 (An a (vS hi n)),b):=by
 have e:slice3 env b 68 (.slice q o n 3 a) (some (some lo)) (some (some hi)) none=C3 b (Bool.rec none (some (.slice q (Nat.add o (Nat.mul lo 3)) (Nat.sub hi lo) 3 (An a (vS hi n)))) (An (An (Nat.ble lo hi) (Nat.ble hi n)) true)):=by kernel_rfl
 rw[e,wY c,wY d];rfl
theorem KN.cut{sz o lo hi:Nat}{t:Nat→U}{a:List (List U)}(b:KN sz o t a):KN sz (o+lo*sz) t ((a.drop lo).take (hi-lo)):=by
 intro c d;have f:lo+c<a.length:=by rw[ym,yt] at d;omega
 rw[yP,yQ];refine⟨(b (lo+c) f).1,λj g=>?_⟩;have:=(b (lo+c) f).2 j g;rw[←this];congr 1;rw[Nat.add_mul];omega
theorem Rd.Bat{a:H}{v:U}{b:List (List U)}(c:Rd 3 a v b){lo hi:Nat}(d:lo≤hi)(f:hi≤b.length){g:KV}(h:∀i,Rd 3 a i ((b.drop lo).take (hi-lo))→g i a):oK (slice3 env a 68 v (some (some lo)) (some (some hi)) none) g:=by
 obtain⟨q,o,j,k,l,rfl,m,n,p,r⟩:=c;rw[ow d f,Ad];have s:((b.drop lo).take (hi-lo)).length=hi-lo:=by rw[ym,yt];omega
 exact h _ ⟨q,_,j,k,_,by rw[s],m,n,by rw[s];have:hi*3≤b.length*3:=Nat.mul_le_mul_right _ f;omega,r.cut⟩
theorem Rs.cut{b:H}{v:U}{c:List UInt8}(d:Rs b v c){lo hi:Nat}(g:lo≤hi)(h:hi≤c.length){i:KV}(j:∀k,Rs b k ((c.drop lo).take (hi-lo))→i k b):oK (slice3 env b 68 v (some (some lo)) (some (some hi)) none) i:=by
 obtain⟨l,r,m⟩:=d;refine r.Bat g (by rw[m.1];exact h) λk n=>j k ⟨_,n,?_,λo p q=>?_⟩
 · rw[ym,ym,yt,yt,m.1]
 · have s:lo+o<c.length:=by rw[ym,yt] at p;omega
   have u:lo+o<l.length:=by rw[m.1];exact s
   obtain⟨f,t,a,w,x⟩:=m.2 (lo+o) s u;refine⟨f,t,a,w,?_⟩;rw[yP,yP,yQ,yQ];exact x
theorem TH{v:U}{a:Prop}(b:E6 4 v v=true)(c:a):BE v v a:=by show Bool.rec Av a (E6 4 v v);rw[b];exact c
theorem avI{n:Nat}{k:IntKind}{a:Int}:E6 (n+1) (.int k a) (.int k a)=true:=by show An (ME k k) (AN a a)=true;rw[Fi,beq_self_eq_true];cases k<;>rfl
theorem avS{n l c:Nat}:E6 (n+1) (.str l c) (.str l c)=true:=by show An (vS l l) (vS c c)=true;rw[wZ,wZ];rfl
theorem Bel{n:Nat}{a:P}{i m z:Nat}{t:Bool}:E6 (n+1) (.slice a i m z t) (.slice a i m z t)=true:=by show An (An (P.beq a a) (vS i i)) (An (An (vS m m) (vS z z)) (No t t))=true;rw[P.beq_refl,wZ,wZ,wZ];cases t<;>rfl
theorem qh{e:TypeId}{sz lo:Nat}{a:H}{v:U}{b:List (List U)}(c:AY e sz lo a v b):E6 4 v v=true:=by
 rcases c with⟨rfl,_⟩|⟨_,_,_,_,_,rfl,_⟩
 · rfl
 · exact Bel
theorem Bey{x a z:U}(b:E6 3 x x=true)(c:E6 3 a a=true)(d:E6 3 z z=true):E6 4 (.agg [x,a,z]) (.agg [x,a,z])=true:=by have e:E6 4 (.agg [x,a,z]) (.agg [x,a,z])=allEq (E6 3) [x,a,z] [x,a,z]:=rfl;rw[e];simp only[allEq,b,c,d];rfl
structure Tok where
 kind:Nat
 text:List UInt8
 space:Bool
 f:Nat
 t:Nat
def Tok.cells(x:Tok):List U:=[.int .i64 (.ofNat x.kind),S x.text,.bool x.space,.str 3 6499937,.int .i64 (.ofNat x.f),.int .i64 (.ofNat x.t),.bool false,.Af]
def LS(a b:H)(c:List Tok):Prop:=AP a b∧a.next.nat<b.next.nat∧∃t,b.at a.next=.row t 4 0 43 true∧AY 48 8 a.next.nat b (AD t 0) (c.map Tok.cells)
theorem Aku{a b:H}{d:U}{g:List UInt8}{h:List Tok}{i e k l m n:Nat}{o:Bool}{p:KV}(q:Rs a d g)(s:g.length≤1000000)(u:h.length≤1000000)(v:LS a b h)(hi:i<e)(w:e≤g.length)
 (x:∀f t h',LS a h' (h++[⟨k,(g.drop i).take (e-i),o,f,t⟩])→(r7 W1 p n).a1 3 6499937 l m d .Af .Af (.ptr a.next 0) false (vJ e) h'):
 (r7 W1 p (n+2)).a5 3 6499937 l m d .Af .Af (.ptr a.next 0) o (vJ i) (vJ k) (vJ e) false b:=by
 obtain⟨y,s,t,u,d⟩:=v;have l:=q.ext y;obtain⟨m,r,p⟩:=l;have v:i<m.length:=by rw[p.1];omega
 have l:e-1<m.length:=by rw[p.1];omega
 obtain⟨m,a0,_,_,a1⟩:=p.2 i (by omega) v;obtain⟨a0,a2,_,_,a3⟩:=p.2 (e-1) (by omega) l;refine Bbr ?_;unfold gM;rw[Cu];refine r.elem v λp a0 a4 _ a5=>?_;rw[a1] at a5;rw[Ae];refine a5.Z (j:=1) (by show 1<3;decide) ?_;simp only[rn,vD,vz];rw[AG,RG (by omega),C9 (by omega),BW,Cu];refine r.elem l λp v a0 _ a1=>?_;rw[a3] at a1;rw[Ae];refine a1.Z (j:=2) (by show 2<3;decide) ?_;simp only[rn,vD,vz];rw[AG,lM,Ad];refine BX ?_;have l:=a5.frame (h':=b.new Mz) (CY a4);have p:=a1.frame (h':=b.new Mz) (CY a0);refine l.Z (j:=1) (by show 1<3;decide) ?_;simp only[rn,vD,vz];rw[AG];refine TH avI ?_;refine p.Z (j:=2) (by show 2<3;decide) ?_;simp only[rn,vD,vz];rw[AG];refine TH avI ?_;have v:(b.new Mz).at b.next=.row (Ai [(.str 0 0),(.int .i64 (vJ 0)),(.int .i64 (vJ 0))] 0 .e) 3 0 45 true:=by rw[AS];rfl
 refine O3 (c:=3) v (vE _) rfl (by decide) (by decide) ?_
 -- the heap from here on
 generalize l:(b.new Mz).put b.next (.row (Ai [.str 3 6499937,.int .i64 (vJ m),.int .i64 (vJ a2)] 0 (Ai [(.str 0 0),(.int .i64 (vJ 0)),(.int .i64 (vJ 0))] 0 .e)) 3 0 45 true)=h3;have p:AP b h3:=by subst l;refine⟨by rw[Dc,Bd];omega,λc v=>?_⟩;rw[AQ (λe=>by subst e;exact absurd v (yd _)),CY v]
 have a3:h3.next.nat=b.next.nat+1:=by subst l;rw[Dc,Bd]
 have a5:Dl h3 b.next 0 [.str 3 6499937,.int .i64 (vJ m),.int .i64 (vJ a2)]:=by refine .row _ 3 0 45 true (by subst l;exact Bg _ _ _) (by show 0+3≤3;decide) λj l=>?_;rw[Am,if_pos (by constructor;omega;simpa using l),vM,show 0+j-0=j by omega,List.getElem?_eq_getElem l];rfl
 have l:=d.ext p;have d:h3.at a.next=.row t 4 0 43 true:=by rw[p.2 _ s];exact u
 rw[KR];refine C6 d (by decide) ?_;refine Rs.cut ((q.ext y).ext p) (Nat.le_of_lt hi) w λs u=>?_;refine a5.A3 rfl ?_;refine c21 (by rw[ym,yt];omega) u λq s=>?_;rw[CR];have w:q.at a.next=.row t 4 0 43 true:=by rw[s.2 _ (by omega)];exact d
 have u:=l.ext s;refine C6 w (by decide) ?_;refine TH (qh u) ?_;have d:=a5.frame (h':=q) (s.2 _ (by omega));refine d.A3 rfl ?_;refine TH (Bey avS avI avI) ?_;rw[sR,Ad,qq,Ad];have l:AP q (q.new (.row (Ai [.int .i64 (vJ k),.str ((g.drop i).take (e-i)).length (enc ((g.drop i).take (e-i))),.bool o,.str 3 6499937,.int .i64 (vJ m),.int .i64 (vJ a2),.bool false,.Af] 0 tH) 8 0 48 true)):=AP.new;have d:b.next.nat<q.next.nat:=by have:=s.1;omega
 refine C6 (show _=Ob.row t 4 0 43 true by rw[l.2 _ (by omega)];exact w) (by decide) ?_;refine TH (qh u) ?_;rw[Acr];refine NG u rfl Ajm (jq (by rw[s9];omega)) (by omega) λb d q k7=>?_;have l:d.at a.next=.row t 4 0 43 true:=by rw[k7.2 _ (by omega) (.inr ⟨_,_,_,_,_,w,by decide⟩)];exact w
 rw[KR];refine FU l (Nat.zero_le _) (by decide) q.one ?_;refine AR rfl ?_;refine Ayl ?_;unfold gO;refine x m a2 _ ⟨?_,?_,_,Bg _ _ _,?_⟩
 · have u:AP a d:=(y.trans (p.trans s)).kp (vE _) k7;refine⟨u.1,λc v=>?_⟩;rw[AQ λw=>by subst w;exact absurd v (yd _)];exact u.2 c v
 · rw[Dc];have:=k7.1;omega
 · rw[Am,if_pos (by constructor<;>simp)];rw[List.map_append];show AY 48 8 a.next.nat _ b (h.map Tok.cells++[Tok.cells ⟨k,(g.drop i).take (e-i),o,m,a2⟩]);refine AY.frame q (vE _) λc v _ x d z p s=>AQ λw=>?_;subst w;rw[l] at s;cases s
end Go.Den
