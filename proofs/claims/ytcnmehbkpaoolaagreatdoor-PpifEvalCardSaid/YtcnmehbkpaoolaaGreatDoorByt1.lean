/-
 Proof.
-/
import Derived.Test.YtcnmehbkpaoolaaGreatDoorFlts
noncomputable section
namespace Go.Den
open Go.RowKit
set_option maxRecDepth 100000
theorem P.beq_refl:∀p:P,P.beq p p=true
 |.z=>rfl
 |.l p=>P.beq_refl p
 |.r p=>P.beq_refl p
section
variable{h:H}{o:Ob FT}{b c:P}
theorem Gw(hb:b.nat<h.next.nat):(h.new o).at b=h.at b:=by
 rw[Hv,if_neg (fun e=>by subst e;exact absurd hb (Nat.lt_irrefl _))]
theorem Lm(hc:c≠b):(h.put b o).at c=h.at c:=by rw[Ql,if_neg hc]
theorem Aw:(h.new o).next.nat=h.next.nat+1:=P.Fm _
theorem Ug:(h.put b o).next=h.next:=rfl
end
def ub(x:UInt8):AV:=.int .u8 (Int.ofNat x.toNat)
def ubs(l:List UInt8):List AV:=l.map ub
theorem Aag:∀l:List UInt8,Fa (ubs l)=some (l.map (·.toNat))
 |[]=>rfl
 |x::l=>by
  show(Option.rec none (fun n=>Option.rec none (fun l=>Bool.rec none (some (n::l)) (Nat.ble n 255)) (Fa (ubs l))) (byteOfCell (ub x)):Option (List Nat))=_
  rw[show byteOfCell (ub x)=some x.toNat from rfl,Aag l]
  show(Bool.rec none (some (x.toNat::l.map (·.toNat))) (Nat.ble x.toNat 255):Option (List Nat))=_
  rw[Nat.ble_eq_true_of_le (by have:=x.toNat_lt;omega)];rfl
theorem Anm:∀l:List UInt8,Ts (l.map (·.toNat))=enc l
 |[]=>rfl
 |x::l=>by
  show x.toNat+256*Ts (l.map (·.toNat))=_
  rw[Anm l];rfl
theorem Aqm(l:List UInt8):strOf (l.map (·.toNat))=S l:=by
 show AV.str (len (l.map (·.toNat))) (Ts (l.map (·.toNat)))=_
 rw[Dl,List.length_map,Anm]
abbrev TB:TypeId:=5
def ei8:TI:=⟨.int .u8,1,1,[.int .u8 (.ofNat 0)],false,true,[]⟩
def T1(n:Int):Tm:=Bg [.int .u8 n] 0 (Bg [.int .u8 (.ofNat 0)] 0 .e)
theorem Aye(n:Int)(h:H):Ao env 115 (fun e ei=>Ai 1 [(0,.int .u8 n)] h e ei)=some (.slice h.next 0 1 1 true,h.new (.row (T1 n) 1 0 TB true)):=by kernel_rfl
theorem Az1(x y:AV)(h:H):Cb env .append [115,115] [x,y] h=My (some false) x y h TB ei8:=by kernel_rfl
theorem Bll(x y:AV)(h:H):Cb env .append [115,9] [x,y] h=My (some false) x y h TB ei8:=by kernel_rfl
def Dx(t:Tm)(l:List UInt8):Prop:=∀i (hi:i<l.length),Co t i=ub l[i]
theorem Dx.get{t:Tm}{l:List UInt8}(hc:Dx t l):Cg t l.length 0=ubs l:=by
 rw[Jy]
 apply List.ext_getElem
 · simp[ubs]
 · intro i h1 h2
   have hi:i<l.length:=by simpa using h1
   simp only[List.getElem_map,List.getElem_range,ubs,Nat.zero_add]
   exact hc i hi
theorem Dx.app{t:Tm}{l m:List UInt8}(hc:Dx t l):Dx (Bg (ubs m) l.length t) (l++m):=by
 intro i hi
 rw[Cd]
 by_cases h:i<l.length
 · rw[if_neg (by omega),hc i h,List.getElem_append_left h]
 · have h1:i-l.length<m.length:=by rw[List.length_append] at hi;omega
   rw[if_pos (by constructor;omega;rw[ubs,List.length_map];omega),List.getD_eq_getElem?_getD,ubs,List.getElem?_map,List.getElem?_eq_getElem h1,List.getElem_append_right (by omega)]
   rfl
theorem Dx.new(m:List UInt8)(t:Tm):Dx (Bg (ubs m) 0 t) m:=Dx.app (l:=[]) (t:=t) (fun _ h=>absurd h (Nat.not_lt_zero _))
def Buf(g:Bool)(h:H)(v:AV)(l:List UInt8):Prop:=(v=.Cy∧l=[])∨∃q t m z w,v=.slice q 0 l.length 1 false∧q.nat<h.next.nat∧h.at q=.row t m z TB w∧l.length≤m∧z≤l.length∧Dx t l∧(g=true∨l≠[])
theorem Buf.one{g:Bool}{h:H}{v:AV}{l:List UInt8}(hb:Buf g h v l):v.one=true:=by
 rcases hb with⟨rfl,_⟩|⟨_,_,_,_,_,rfl,_⟩<;>rfl
def Wu(h h':H):Prop:=h.next.nat≤h'.next.nat∧∀q t m z w,h.at q=.row t m z TB w→q.nat<h.next.nat→h'.at q=h.at q
theorem Wu.new{h:H}{o:Ob FT}:Wu h (h.new o):=⟨by rw[Aw];omega,fun q t m z w _ hq=>Gw hq⟩
theorem Wu.put{h:H}{o:Ob FT}{b:P}{t:Tm}{n z:Nat}{e:TypeId}{w:Bool}(ha:h.at b=.row t n z e w)(he:e≠TB):Wu h (h.put b o):=
 ⟨Nat.le_refl _,fun q t' m z' w' h1 _=>Lm fun e'=>by subst e';rw[ha] at h1;cases h1;exact he rfl⟩
theorem Buf.mono{g:Bool}{h h':H}{v:AV}{l:List UInt8}(hb:Buf g h v l)(k:Wu h h'):Buf g h' v l:=by
 rcases hb with⟨rfl,rfl⟩|⟨q,t,m,z,w,rfl,h1,h2,h3⟩
 · exact .inl ⟨rfl,rfl⟩
 · exact .inr ⟨q,t,m,z,w,rfl,Nat.lt_of_lt_of_le h1 k.1,by rw[k.2 q t m z w h2 h1];exact h2,h3⟩
theorem Azc{n:Nat}(hn:n≤1099511627776):Lx ei8 n=true:=by
 have e:Lx ei8 n=An (An true true) (An (Nat.ble n 1099511627776) (Nat.ble (Nat.mul n 1) 140737488355328)):=rfl
 rw[e,Nat.ble_eq_true_of_le hn,Nat.ble_eq_true_of_le (show Nat.mul n 1≤140737488355328 by show n*1≤_;omega)];rfl
theorem Avb{g:Bool}{h:H}{v x:AV}{l m:List UInt8}(hb:Buf g h v l)(hx:Ev h 1 x=some (m.length,ubs m))(hm:m≠[])(hl:l.length+m.length≤1099511627776):
 ∃v' h',My (some false) v x h TB ei8=some (v',h')∧Buf false h' v' (l++m)∧h.next.nat≤h'.next.nat∧∀c t n z w e,h.at c=.row t n z e w→e≠TB→c.nat<h.next.nat→h'.at c=h.at c:=by
 have hne:l++m≠[]:=by simp[hm]
 have h0:Nat.beq m.length 0=false:=by
  cases m with
  |nil=>exact absurd rfl hm
  |cons _ _=>rfl
 have e0:My (some false) v x h TB ei8=(Bool.rec none (Ai1 TB 1 v m.length (ubs m) h) (An (Rf v) (Lx ei8 (Nat.add (Ki v) m.length))):Option (AV×H)):=by
  show(Option.rec none (fun p=>Bool.rec none (Bool.rec (Ai1 TB 1 v p.1 p.2 h) (some (v,h)) (Nat.beq p.1 0)) (An (Rf v) (Lx ei8 (Nat.add (Ki v) p.1)))) (Ev h 1 x):Option (AV×H))=_
  rw[hx]
  show(Bool.rec none (Bool.rec (Ai1 TB 1 v m.length (ubs m) h) (some (v,h)) (Nat.beq m.length 0)) (An (Rf v) (Lx ei8 (Nat.add (Ki v) m.length))):Option (AV×H))=_
  rw[h0]
 rw[e0]
 rcases hb with⟨rfl,rfl⟩|⟨q,t,n,z,w,rfl,h1,h2,h3,h4,h5,h6⟩
 · have hf:Lx ei8 (Nat.add (Ki .Cy) m.length)=true:=Azc (by show 0+m.length≤_;simp at hl;omega)
   rw[hf]
   refine⟨.slice h.next 0 m.length 1 false,h.new (.row (Bg (ubs m) 0 .e) (Nat.mul m.length 1) 0 TB false),rfl,.inr ⟨h.next,Bg (ubs m) 0 .e,Nat.mul m.length 1,0,false,rfl,by rw[Aw];omega,Bs _ _,?_,Nat.zero_le _,Dx.new _ _,.inr hne⟩,by rw[Aw];omega,fun c t n z w e _ _ hc=>Gw hc⟩
   show([]++m).length≤m.length*1
   simp
 · have hf:Lx ei8 (Nat.add (Ki (.slice q 0 l.length 1 false)) m.length)=true:=Azc (by show l.length+m.length≤_;omega)
   rw[hf]
   show∃v' h',(Af6 TB q 0 l.length m.length 1 (ubs m) h (Ej (h.at q)):Option (AV×H))=some (v',h')∧_
   rw[h2]
   have hc1:An (An (Nat.beq TB TB) (Nat.beq 0 0)) (An (Nat.ble (Nat.add 0 (Nat.mul l.length 1)) n) (Nat.ble z (Nat.add 0 (Nat.mul l.length 1))))=true:=by
    rw[Nat.ble_eq_true_of_le (show Nat.add 0 (Nat.mul l.length 1)≤n by show 0+l.length*1≤n;omega),Nat.ble_eq_true_of_le (show z≤Nat.add 0 (Nat.mul l.length 1) by show z≤0+l.length*1;omega)];rfl
   show∃v' h',(Bool.rec none (some (.slice h.next 0 (Nat.add l.length m.length) 1 false,(h.put q .dead).new (.row (Bg (ubs m) (Nat.add 0 (Nat.mul l.length 1)) t) (Nat.add 0 (Nat.mul (Nat.add l.length m.length) 1)) z TB false))) (An (An (Nat.beq TB TB) (Nat.beq 0 0)) (An (Nat.ble (Nat.add 0 (Nat.mul l.length 1)) n) (Nat.ble z (Nat.add 0 (Nat.mul l.length 1))))):Option (AV×H))=some (v',h')∧_
   rw[hc1]
   have e1:Nat.add 0 (Nat.mul l.length 1)=l.length:=by show 0+l.length*1=_;omega
   have e2:Nat.add 0 (Nat.mul (Nat.add l.length m.length) 1)=(l++m).length:=by rw[List.length_append];show 0+(l.length+m.length)*1=_;omega
   have e3:Nat.add l.length m.length=(l++m).length:=by rw[List.length_append];rfl
   rw[e1,e2,e3]
   refine⟨_,_,rfl,.inr ⟨h.next,_,_,z,false,rfl,?_,Bs (h.put q .dead) _,Nat.le_refl _,by rw[List.length_append];omega,h5.app,.inr hne⟩,?_,fun c t' n' z' w' e hc he hlt=>?_⟩
   · show h.next.nat<(P.succ h.next).nat
     rw[P.Fm];omega
   · show h.next.nat≤(P.succ h.next).nat
     rw[P.Fm];omega
   · have hcq:c≠q:=fun e'=>by subst e';rw[h2] at hc;cases hc;exact he rfl
     rw[Gw (show c.nat<(h.put q .dead).next.nat from hlt),Lm hcq]
def Bld(g:Bool)(h:H)(b:P)(l:List UInt8):Prop:=∃t,h.at b=.row t 2 0 149 true∧b.nat<h.next.nat∧(Co t 0=.Gk∨Co t 0=.ptr b 0)∧Buf g h (Co t 1) l
theorem Bld.new(h:H):Bld false (h.new Am3) h.next []:=
 ⟨Bg [.Gk,.Cy] 0 .e,Bs _ _,by rw[Aw];omega,.inl (by kernel_rfl),.inl ⟨by kernel_rfl,rfl⟩⟩
theorem Ri{b:P}{o n z:Nat}{t:Bool}{K:Nat→Prop}:Hy (.slice b o n z t) K=K n:=rfl
theorem Ao8{K:Nat→Prop}:Hy .Cy K=K 0:=rfl
theorem Atr{A:Prop}:eqC .Cy .Cy A=A:=rfl
theorem Al{b:P}{o:Nat}{h:H}:Bd (.ptr b o) h=some (.ptr b o,h):=rfl
theorem Afg{b:P}{K:AV→Prop}:Af 0 (.ptr b 0) K=K (.ptr b 0):=rfl
theorem Hi{b:P}{K:AV→Prop}:Af 1 (.ptr b 0) K=K (.ptr b 1):=rfl
theorem Bk5{b:P}{h:H}{k:KV}(hk:k (.ptr b 0) h):W1 (.func 164) [.ptr b 0] h k:=by
 refine A8y ?_
 refine Bz rfl ?_
 rw[show Ir .Iw [.ptr b 0] h=some (.ptr b 0,h) from rfl,Ac]
 exact hk
theorem Bb8(b:P):Qk env .neq 147 (.ptr b 0) (.ptr b 0)=some (.bool false):=by
 have e:eqA env 147 (.ptr b 0) (.ptr b 0)=(Bool.rec none (some true) (P.beq b b):Option Bool):=by kernel_rfl
 have e2:Qk env .neq 147 (.ptr b 0) (.ptr b 0)=Asb (eqA env 147 (.ptr b 0) (.ptr b 0)):=rfl
 rw[e2,e,P.beq_refl];rfl
theorem Bdd(b:P):Qk env .eql 147 (.ptr b 0) .Gk=some (.bool false):=by kernel_rfl
theorem A50:Qk env .eql 147 .Gk .Gk=some (.bool true):=by kernel_rfl
section
variable{h:H}{b:P}{t:Tm}
theorem A8m(ha:h.at b=.row t 2 0 149 true):Fs env h 147 258 (.ptr b 0)=some (.ptr b 0,h):=by
 have e:Fs env h 147 258 (.ptr b 0)=Lb env 147 b 0 h (Ej (h.at b)):=by kernel_rfl
 have e2:Lb env 147 b 0 h (Ej (Ob.row t 2 0 149 true:Ob FT))=some (.ptr b 0,h):=by kernel_rfl
 rw[e,ha,e2]
theorem A8l(ha:h.at b=.row t 2 0 149 true):Fs env h 258 147 (.ptr b 0)=some (.ptr b 0,h):=by
 have e:Fs env h 258 147 (.ptr b 0)=Og env b 0 149 h (Ej (h.at b)):=by kernel_rfl
 have e2:Og env b 0 149 h (Ej (Ob.row t 2 0 149 true:Ob FT))=some (.ptr b 0,h):=by kernel_rfl
 rw[e,ha,e2]
theorem A8g{k:KV}(ha:h.at b=.row t 2 0 149 true)(h0:Co t 0=.Gk∨Co t 0=.ptr b 0)
 (hk:∀h' t',h'.at b=.row t' 2 0 149 true→Co t' 0=.ptr b 0→Co t' 1=Co t 1→h'.next=h.next→(∀c,c≠b→h'.at c=h.at c)→k (.tuple []) h'):W1 (.func 110) [.ptr b 0] h k:=by
 refine A90 (n:=1) Bw (Bka ?_)
 unfold Aep
 rw[Al,Ac,Afg]
 refine Jk ha (by decide) ?_
 rcases h0 with h0|h0
 · rw[h0,A50,Gp,Av]
   refine Bz rfl ?_
   rw[A8m ha,Ac]
   refine Bk5 ?_
   rw[A8l ha,Ac,Al,Ac,Afg]
   refine Aqp ha (Nat.le_refl _) (by decide) rfl ?_
   refine hk _ _ (Dd _ _ _) ?_ ?_ rfl (fun c hc=>Lm hc)
   · rw[Cd];simp
   · rw[Cd];simp
 · rw[h0,Bdd,Gp,Av]
   refine Ca rfl ?_
   rw[Al,Ac,Afg]
   refine Jk ha (by decide) ?_
   rw[h0,Bb8,Gp,Av]
   refine Ca rfl ?_
   exact hk h t ha h0 rfl rfl (fun _ _=>rfl)
end
theorem Bld.start{g:Bool}{h:H}{b:P}{l:List UInt8}{t:Tm}(ha:h.at b=.row t 2 0 149 true)(hb:Buf g h (Co t 1) l){h':H}{t':Tm}(h1:h'.next=h.next)(h2:∀c,c≠b→h'.at c=h.at c)(h3:Co t' 1=Co t 1):Buf g h' (Co t' 1) l:=by
 rw[h3]
 exact hb.mono ⟨by rw[h1];exact Nat.le_refl _,fun q t m z w e _=>h2 q fun e'=>by subst e';rw[ha] at e;cases e⟩
theorem Bld.fin{g:Bool}{h:H}{b:P}{l:List UInt8}{t:Tm}{v:AV}{k:H→Prop}(ha:h.at b=.row t 2 0 149 true)(hn:b.nat<h.next.nat)(h0:Co t 0=.ptr b 0)(hb:Buf g h v l)(hk:∀h',Bld g h' b l→k h'):st1 (.ptr b 1) v h k:=by
 refine Aqp ha (Nat.zero_le _) (by decide) hb.one ?_
 refine hk _ ⟨_,Dd _ _ _,hn,.inr (by rw[Cd];simp[h0]),?_⟩
 have:Co (Bg [v] 1 t) 1=v:=by rw[Cd];simp
 rw[this]
 exact hb.mono (Wu.put ha (by decide))
theorem Auw{g:Bool}{h:H}{b:P}{l:List UInt8}{x:UInt8}{k:KV}(hb:Bld g h b l)(hl:l.length+1≤1099511627776)(hk:∀h',Bld false h' b (l++[x])→k .Ie h'):W1 (.func 107) [.ptr b 0,.int .u8 (Int.ofNat x.toNat)] h k:=by
 obtain⟨t,ha,hn,h0,hbuf⟩:=hb
 refine A93 (n:=1) Bw (Bkd ?_)
 unfold Aeu
 refine A8g ha h0 fun h1 t1 a1 p1 q1 n1 f1=>?_
 rw[Al,Ac,Hi]
 refine Jk a1 (by decide) ?_
 rw[Aye,Ac]
 have hbuf1:=(Bld.start ha hbuf n1 f1 q1).mono (Wu.new (o:=.row (T1 (Int.ofNat x.toNat)) 1 0 TB true))
 have hx:Ev (h1.new (.row (T1 (Int.ofNat x.toNat)) 1 0 TB true)) 1 (.slice h1.next 0 1 1 true)=some ([x].length,ubs [x]):=by
  show(Option.rec none (fun cs=>some (1,cs)) ((h1.new (.row (T1 (Int.ofNat x.toNat)) 1 0 TB true)).read h1.next 0 1):Option (Nat×List AV))=_
  have hr:(h1.new (.row (T1 (Int.ofNat x.toNat)) 1 0 TB true)).read h1.next 0 1=some (ubs [x]):=by
   show Hp.Im _ _ _ _ _ _=_
   unfold Hp.Im
   rw[Bs]
   kernel_rfl
  rw[hr];rfl
 obtain⟨v',h3,e3,b3,n3,f3⟩:=Avb hbuf1 hx (by simp) hl
 rw[Az1,e3,Ac,Al,Ac,Hi]
 have hn1:b.nat<h1.next.nat:=by rw[n1];exact hn
 have a2:(h1.new (.row (T1 (Int.ofNat x.toNat)) 1 0 TB true)).at b=.row t1 2 0 149 true:=by rw[Gw hn1];exact a1
 have hn2:b.nat<(h1.new (.row (T1 (Int.ofNat x.toNat)) 1 0 TB true)).next.nat:=by rw[Aw];omega
 exact Bld.fin (by rw[f3 b _ _ _ _ _ a2 (by decide) hn2];exact a2) (Nat.lt_of_lt_of_le hn2 n3) p1 b3 fun h' hb'=>hk h' hb'
theorem Ace(h:H):∀(l:List UInt8),Ev h 1 (S l)=some (l.length,ubs l):=fun l=>by
 show(some (l.length,byteCells l.length (enc l)):Option (Nat×List AV))=_
 have:∀l:List UInt8,byteCells l.length (enc l)=ubs l:=by
  intro l
  induction l with
  |nil=>rfl
  |cons x l ih=>
   obtain⟨h1,h2⟩:=Rm x l
   show(.int .u8 (.ofNat (Nat.mod (enc (x::l)) 256))::byteCells l.length (Nat.div (enc (x::l)) 256):List AV)=_
   rw[h1,h2,ih];rfl
 rw[this]
theorem c61{g:Bool}{h:H}{b:P}{l m:List UInt8}{k:KV}(hb:Bld g h b l)(hm:m≠[])(hl:l.length+m.length≤1099511627776)(hk:∀v h',Bld false h' b (l++m)→k v h'):W1 (.func 61) [.ptr b 0,S m] h k:=by
 obtain⟨t,ha,hn,h0,hbuf⟩:=hb
 refine w61 (n:=1) Bw (g61 ?_)
 unfold Al4
 refine A8g ha h0 fun h1 t1 a1 p1 q1 n1 f1=>?_
 rw[Al,Ac,Hi]
 refine Jk a1 (by decide) ?_
 have hbuf1:=Bld.start ha hbuf n1 f1 q1
 obtain⟨v',h3,e3,b3,n3,f3⟩:=Avb hbuf1 (Ace h1 m) hm hl
 rw[Bll,e3,Ac,Al,Ac,Hi]
 have hn1:b.nat<h1.next.nat:=by rw[n1];exact hn
 exact Bld.fin (by rw[f3 b _ _ _ _ _ a1 (by decide) hn1];exact a1) (Nat.lt_of_lt_of_le hn1 n3) p1 b3 fun h' hb'=>hk _ h' hb'
theorem A0e(x y:AV)(h:H):Cb env .unsafeString [225,3] [x,y] h=Nc env x (Bt y) h:=by kernel_rfl
theorem Ba1(x:AV)(h:H):Cb env .unsafeSliceData [115] [x] h=Gv x h:=rfl
theorem isB:isByte env TB=true:=by kernel_rfl
theorem c63{g:Bool}{h:H}{b:P}{l:List UInt8}{k:KV}(hb:Bld g h b l)(hg:g=false∨l≠[])(hl:l.length≤9223372036854775807)(hk:∀h',k (S l) h'):W1 (.func 63) [.ptr b 0] h k:=by
 obtain⟨t,ha,hn,h0,hbuf⟩:=hb
 refine w63 (n:=1) Bw (g63 ?_)
 unfold Al3
 rw[Al,Ac,Hi]
 refine Jk ha (by decide) ?_
 rcases hbuf with⟨e,rfl⟩|⟨q,t1,m,z,w,e,h1,h2,h3,h4,h5,h6⟩
 · rw[e,Ba1]
   rw[show(Gv AV.Cy h:Option (AV×H))=some (.Gk,h) from rfl,Ac,Al,Ac,Hi]
   refine Jk ha (by decide) ?_
   rw[e]
   show oK (Cb env .unsafeString [225,3] [.Gk,.int .i64 (Int.ofNat 0)] h) _
   rw[A0e,show(Nc env .Gk (Bt (.int .i64 (Int.ofNat 0))) h:Option (AV×H))=some (.str 0 0,h) from rfl,Ac]
   exact hk h
 · have hne:l≠[]:=by
    rcases hg with rfl|hg
    · rcases h6 with h6|h6
      · cases h6
      · exact h6
    · exact hg
   have hpos:l.length=(l.length-1)+1:=by
    cases l with
    |nil=>exact absurd rfl hne
    |cons _ _=>simp
   have e1:(Gv (.slice q 0 l.length 1 false) h:Option (AV×H))=some (.ptr q 0,h):=by rw[hpos];rfl
   rw[e,Ba1,e1,Ac,Al,Ac,Hi]
   refine Jk ha (by decide) ?_
   rw[e,Ri,A0e]
   have e2:Nc env (.ptr q 0) (Bt (.int .i64 (Int.ofNat l.length))) h=(Bool.rec (Agl env q 0 l.length h (Ej (h.at q))) (some (.str 0 0,h)) (Nat.beq l.length 0):Option (AV×H)):=rfl
   have e3:Nat.beq l.length 0=false:=by rw[hpos];rfl
   rw[e2,e3,h2]
   show oK (Bool.rec none (Po (h.put q (.row t1 m (Nat.add m 1) TB w)) (Fa (Cg t1 l.length 0))) (An (isByte env TB) (An (Nat.ble (Nat.add 0 l.length) m) (Nat.ble l.length (intMax .i64)))):Option (AV×H)) _
   rw[isB,Nat.ble_eq_true_of_le (show Nat.add 0 l.length≤m by show 0+l.length≤m;omega),Nat.ble_eq_true_of_le (show l.length≤intMax .i64 from hl),h5.get,Aag]
   show oK (some (strOf (l.map (·.toNat)),h.put q (.row t1 m (Nat.add m 1) TB w)):Option (AV×H)) _
   rw[Aqm,Ac]
   exact hk _
end Go.Den
