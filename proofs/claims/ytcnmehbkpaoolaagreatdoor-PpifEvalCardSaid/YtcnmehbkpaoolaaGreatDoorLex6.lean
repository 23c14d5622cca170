/-
 Proof.
-/
import Derived.Test.YtcnmehbkpaoolaaGreatDoorByt1
namespace Go.Den
open Go.RowKit
set_option maxRecDepth 100000
theorem ilt(a b:Nat):Cs (Int.ofNat a) (Int.ofNat b)=decide (a<b):=by
 rw[Ff];exact decide_eq_decide.2 Int.ofNat_lt
theorem ile(a b:Nat):Er (Int.ofNat a) (Int.ofNat b)=decide (a≤b):=by
 rw[Iz];exact decide_eq_decide.2 Int.ofNat_le
theorem Lg(a b:Nat):Bm (Int.ofNat a) (Int.ofNat b)=decide (a=b):=by
 rw[Fz];exact decide_eq_decide.2 ⟨fun e=>Int.ofNat.inj e,fun e=>by rw[e]⟩
theorem Aj6(a b:UInt8):Bm (Int.ofNat a.toNat) (Int.ofNat b.toNat)=decide (a=b):=by
 rw[Lg];exact decide_eq_decide.2 ⟨fun e=>UInt8.toNat_inj.1 e,fun e=>by rw[e]⟩
theorem Uj{a b:Nat}(h:b≤a):Gl (Int.ofNat a) (Int.ofNat b)=Int.ofNat (a-b):=by
 rw[Lu];exact(Int.ofNat_sub h).symm
theorem Eg(a b:Nat):Cl (Int.ofNat a) (Int.ofNat b)=Int.ofNat (a+b):=by rw[Js];rfl
def Blm(sz o:Nat)(t:Tm)(L:List (List AV)):Prop:=∀i (hi:i<L.length),L[i].length=sz∧∀j (hj:j<L[i].length),Co t (o+i*sz+j)=L[i][j]
def Acq(h:H)(q:P)(c:Nat→AV)(m:Nat):Prop:=(∃t z e w,h.at q=.row t m z e w∧c=Co t)∨h.at q=.ext c m
theorem Acq.frame{h h':H}{q:P}{c:Nat→AV}{m:Nat}(f:Acq h q c m)(e:h'.at q=h.at q):Acq h' q c m:=by unfold Acq;rw[e];exact f
def AtP(h:H)(q:P)(o:Nat)(cs:List AV):Prop:=∃c m,Acq h q c m∧o+cs.length≤m∧∀j (hj:j<cs.length),c (o+j)=cs[j]
theorem AtP.row{h:H}{q:P}{o:Nat}{cs:List AV}(t:Tm)(m z:Nat)(e:TypeId)(w:Bool)(h1:h.at q=.row t m z e w)(h2:o+cs.length≤m)(h3:∀j (hj:j<cs.length),Co t (o+j)=cs[j]):AtP h q o cs:=⟨Co t,m,.inl ⟨t,z,e,w,h1,rfl⟩,h2,h3⟩
def Bln(sz o:Nat)(c:Nat→AV)(L:List (List AV)):Prop:=∀i (hi:i<L.length),L[i].length=sz∧∀j (hj:j<L[i].length),c (o+i*sz+j)=L[i][j]
def Rd(sz:Nat)(h:H)(v:AV)(L:List (List AV)):Prop:=∃q o c m b,v=.slice q o L.length sz b∧q.nat<h.next.nat∧Acq h q c m∧o+L.length*sz≤m∧Bln sz o c L
theorem Rd.row{sz:Nat}{h:H}{v:AV}{L:List (List AV)}(q:P)(o:Nat)(t:Tm)(m z:Nat)(e:TypeId)(w b:Bool)(h0:v=.slice q o L.length sz b)(h1:q.nat<h.next.nat)(h2:h.at q=.row t m z e w)(h3:o+L.length*sz≤m)(h4:Blm sz o t L):Rd sz h v L:=⟨q,o,Co t,m,b,h0,h1,.inl ⟨t,z,e,w,h2,rfl⟩,h3,h4⟩
theorem Rd.len{sz:Nat}{h:H}{v:AV}{L:List (List AV)}(hr:Rd sz h v L){K:Nat→Prop}:Hy v K=K L.length:=by
 obtain⟨_,_,_,_,_,rfl,_⟩:=hr;rfl
theorem Rd.frame{sz:Nat}{h h':H}{v:AV}{L:List (List AV)}(hr:Rd sz h v L)(hn:h.next.nat≤h'.next.nat)(hf:∀c,c.nat<h.next.nat→(∀o n z b,v=.slice c o n z b→h'.at c=h.at c)):Rd sz h' v L:=by
 obtain⟨q,o,c,m,b,rfl,h1,h2,h3⟩:=hr
 exact⟨q,o,c,m,b,rfl,by omega,h2.frame (hf q h1 _ _ _ _ rfl),h3⟩
theorem Axv{sz i:Nat}{q:P}{o n:Nat}{b:Bool}{K:AV→Prop}(hi:i<n)(hk:K (.ptr q (o+i*sz))):Dj sz i (.slice q o n sz b) K:=by
 show Bool.rec Am (fN (Nat.add o (Nat.mul i sz)) (fun q'=>K (.ptr q q'))) (An (Nat.ble (Nat.add i 1) n) (Nat.beq sz sz))
 rw[show Nat.ble (Nat.add i 1) n=true from Nat.ble_eq_true_of_le hi,Nat.beq_refl]
 exact hk
theorem Rd.elem{sz i:Nat}{h:H}{v:AV}{L:List (List AV)}{K:AV→Prop}(hr:Rd sz h v L)(hi:i<L.length)(hk:∀q o,q.nat<h.next.nat→(∃o n z b,v=.slice q o n z b)→AtP h q o L[i]→K (.ptr q o)):Dj sz i v K:=by
 obtain⟨q,o,c,m,b,rfl,h1,h2,h3,h4⟩:=hr
 refine Axv hi (hk _ _ h1 ⟨_,_,_,_,rfl⟩ ⟨c,m,h2,?_,?_⟩)
 · rw[(h4 i hi).1]
   have:(i+1)*sz≤L.length*sz:=Nat.mul_le_mul_right _ hi
   rw[Nat.succ_mul] at this
   omega
 · exact(h4 i hi).2
theorem Ae{q:P}{o j:Nat}{K:AV→Prop}:Af j (.ptr q o) K=K (.ptr q (o+j)):=rfl
theorem Bi3{h:H}{b:P}{c:Nat→AV}{n o:Nat}{K:AV→Prop}(ha:h.at b=.ext c n)(ho:o<n)(hk:K (c o)):Go.Den.ld1 (.ptr b o) h K:=by
 show h.Hs b o Am K
 unfold Hp.Hs
 rw[ha]
 show Sy o Am K c n
 unfold Sy
 rw[show Nat.ble (Nat.add o 1) n=true from Nat.ble_eq_true_of_le ho]
 show Cf (c o) K
 rw[Ch];exact hk
theorem Wp(c:Nat→AV):∀(n o:Nat),Cq c n o=(List.range n).map fun i=>c (o+i)
 |0,_=>rfl
 |n+1,o=>by
  show c o::Cq c n (Nat.add o 1)=_
  rw[Wp c n,List.range_succ_eq_map,List.map_cons,List.map_map]
  congr 1
  exact List.map_congr_left fun i _=>by show c (o+1+i)=c (o+(i+1));congr 1;omega
theorem AtP.ld1{h:H}{q:P}{o j:Nat}{cs:List AV}{K:AV→Prop}(ha:AtP h q o cs)(hj:j<cs.length)(hk:K cs[j]):ld1 (.ptr q (o+j)) h K:=by
 obtain⟨c,m,h1,h2,h3⟩:=ha
 rcases h1 with⟨t,z,e,w,h1,rfl⟩|h1
 · refine Jk h1 (by omega) ?_
   rw[h3 j hj];exact hk
 · refine Bi3 h1 (by omega) ?_
   rw[h3 j hj];exact hk
theorem AtP.ldn{h:H}{q:P}{o c:Nat}{cs:List AV}{K:AV→Prop}(ha:AtP h q o cs)(hj:cs.length=c)(hk:K (.agg cs)):ldn c (.ptr q o) h K:=by
 obtain⟨f,m,h1,h2,h3⟩:=ha
 have hm:(List.range c).map (fun i=>f (o+i))=cs:=by
  apply List.ext_getElem
  · simp[hj]
  · intro i h1 h2
    simp only[List.getElem_map,List.getElem_range]
    exact h3 i h2
 rcases h1 with⟨t,z,e,w,h1,rfl⟩|h1
 · refine Ab2 h1 (by omega) ?_
   rw[Jy,hm];exact hk
 · show h.Im q o c Am (fun l=>K (.agg l))
   unfold Hp.Im
   rw[h1]
   show Ag5 o c Am (fun l=>K (.agg l)) f m
   unfold Ag5
   rw[show Nat.ble (Nat.add o c) m=true from Nat.ble_eq_true_of_le (by show o+c≤m;omega),Wp,hm]
   exact hk
theorem AtP.frame{h h':H}{q:P}{o:Nat}{cs:List AV}(ha:AtP h q o cs)(hf:h'.at q=h.at q):AtP h' q o cs:=by
 obtain⟨c,m,h1,h2⟩:=ha
 exact⟨c,m,h1.frame hf,h2⟩
theorem Rd.fld{sz i j:Nat}{h:H}{v:AV}{L:List (List AV)}{K:AV→Prop}(hr:Rd sz h v L)(hi:i<L.length)(hj:j<L[i].length)(hk:K L[i][j]):Dj sz i v fun a=>Af j a fun a=>Go.Den.ld1 a h K:=
 hr.elem hi fun q o _ _ ha=>by rw[Ae];exact ha.ld1 hj hk
theorem Rd.all{sz i:Nat}{h:H}{v:AV}{L:List (List AV)}{K:AV→Prop}(hr:Rd sz h v L)(hi:i<L.length)(hz:L[i].length=sz)(hk:K (.agg L[i])):Dj sz i v fun a=>Go.Den.ldn sz a h K:=
 hr.elem hi fun q o _ _ ha=>ha.ldn hz hk
def Exh(h h':H):Prop:=h.next.nat≤h'.next.nat∧∀c,c.nat<h.next.nat→h'.at c=h.at c
theorem Exh.refl{h:H}:Exh h h:=⟨Nat.le_refl _,fun _ _=>rfl⟩
theorem Exh.trans{h h1 h2:H}(a:Exh h h1)(b:Exh h1 h2):Exh h h2:=⟨Nat.le_trans a.1 b.1,fun c hc=>by rw[b.2 c (Nat.lt_of_lt_of_le hc a.1),a.2 c hc]⟩
theorem Exh.new{h:H}{o:Ob FT}:Exh h (h.new o):=⟨by rw[Aw];omega,fun _ hc=>Gw hc⟩
theorem Rd.ext{sz:Nat}{h h':H}{v:AV}{L:List (List AV)}(hr:Rd sz h v L)(hx:Exh h h'):Rd sz h' v L:=hr.frame hx.1 fun c hc _ _ _ _ _=>hx.2 c hc
theorem Bfb(v:AV)(h:H):Fs env h 115 9 v=Xz env 115 v h:=by kernel_rfl
theorem cvb(b:P)(o n:Nat)(h:H):Ro env 115 b o n h=(Option.rec none (fun cs=>Po h (Fa cs)) (h.read b o n):Option (AV×H)):=by kernel_rfl
theorem Abk(h:H)(l:List UInt8):Po h (Fa (ubs l))=some (S l,h):=by
 rw[Aag]
 show some (strOf (l.map (·.toNat)),h)=_
 rw[Aqm]
theorem Aq0{h:H}{q:P}{t:Tm}{m z n:Nat}{e:TypeId}{w:Bool}(ha:h.at q=.row t m z e w)(hn:n≤m):h.read q 0 n=some (Cg t n 0):=by
 unfold Hp.read Hp.Im
 rw[ha]
 show(Ty 0 n none some t m:Option (List AV))=_
 unfold Ty
 rw[show Nat.ble (Nat.add 0 n) m=true from Nat.ble_eq_true_of_le (by show 0+n≤m;omega)]
theorem Aip{h:H}{q:P}{t:Tm}{m z:Nat}{w:Bool}{l:List UInt8}{ti:Bool}(ha:h.at q=.row t m z TB w)(hm:l.length≤m)(hc:Dx t l):Fs env h 115 9 (.slice q 0 l.length 1 ti)=some (S l,h):=by
 rw[Bfb]
 show Ro env 115 q 0 l.length h=_
 rw[cvb,Aq0 ha hm,hc.get]
 exact Abk h l
end Go.Den
noncomputable section
namespace Go.Den
open Go.RowKit
set_option maxRecDepth 100000
def es(l:List (List UInt8)):List (List AV):=l.map fun x=>[S x]
theorem Afm(l:List (List UInt8)):(es l).length=l.length:=by unfold es;simp
theorem A5z{l:List (List UInt8)}{i:Nat}(h:i<l.length)(h':i<(es l).length):(es l)[i]=[S l[i]]:=List.getElem_map (fun x=>[S x]) (h:=h')
theorem Rd.str{h:H}{v:AV}{l:List (List UInt8)}(hr:Rd 1 h v (es l)){i:Nat}(hi:i<l.length){K:AV→Prop}(hk:K (S l[i])):Dj 1 i v fun a=>Go.Den.ld1 a h K:=by
 have hi':i<(es l).length:=by rw[Afm];exact hi
 have hc:=A5z hi hi'
 refine hr.elem hi' fun q o _ _ ha=>?_
 have:=ha.ld1 (j:=0) (K:=K) (by rw[hc];exact Nat.one_pos) (by simp only[hc,List.getElem_cons_zero];exact hk)
 exact this
theorem Aaa{v:AV}{A:Prop}(h:Pj 4 v v=true)(hA:A):eqC v v A:=by
 show Bool.rec Am A (Pj 4 v v)
 rw[h];exact hA
theorem avI{n:Nat}{k:IntKind}{a:Int}:Pj (n+1) (.int k a) (.int k a)=true:=by
 show An (Ah5 k k) (Bm a a)=true
 rw[Fz,beq_self_eq_true];cases k<;>rfl
theorem avS{n l c:Nat}:Pj (n+1) (.str l c) (.str l c)=true:=by
 show An (Nat.beq l l) (Nat.beq c c)=true
 rw[Nat.beq_refl,Nat.beq_refl];rfl
theorem Blk{n:Nat}{a:P}{i m z:Nat}{t:Bool}:Pj (n+1) (.slice a i m z t) (.slice a i m z t)=true:=by
 show An (An (P.beq a a) (Nat.beq i i)) (An (An (Nat.beq m m) (Nat.beq z z)) (Af5 t t))=true
 rw[P.beq_refl,Nat.beq_refl,Nat.beq_refl,Nat.beq_refl];cases t<;>rfl
end Go.Den
