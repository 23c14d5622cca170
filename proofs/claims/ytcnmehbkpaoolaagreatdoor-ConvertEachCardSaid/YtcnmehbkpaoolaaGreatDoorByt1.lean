/-
 Proof.
-/
import Derived.Test.YtcnmehbkpaoolaaGreatDoorFlts
noncomputable section
namespace Go.Den
open Go.RowKit
set_option maxRecDepth 100000
theorem P.beq_refl:∀p:P,P.beq p p=true
 |.z=>rfl
 |.l p=>P.beq_refl p
 |.r p=>P.beq_refl p
section
variable{h:H}{o:Ob FT}{b c:P}
theorem Dd(hb:b.nat<h.next.nat):(h.new o).at b=h.at b:=by
 rw[Fk,if_neg (fun e=>by subst e;exact absurd hb (Nat.lt_irrefl _))]
theorem Cd(hc:c≠b):(h.put b o).at c=h.at c:=by rw[Jc,if_neg hc]
theorem Be:(h.new o).next.nat=h.next.nat+1:=P.Dn _
theorem Dl:(h.put b o).next=h.next:=rfl
end
def ub(x:UInt8):AV:=.int .u8 (Int.ofNat x.toNat)
def ubs(l:List UInt8):List AV:=l.map ub
theorem Vg:∀l:List UInt8,Et (ubs l)=some (l.map (·.toNat))
 |[]=>rfl
 |x::l=>by
  show(Option.rec none (fun n=>Option.rec none (fun l=>Bool.rec none (some (n::l)) (Nat.ble n 255)) (Et (ubs l))) (byteOfCell (ub x)):Option (List Nat))=_
  rw[show byteOfCell (ub x)=some x.toNat from rfl,Vg l]
  show(Bool.rec none (some (x.toNat::l.map (·.toNat))) (Nat.ble x.toNat 255):Option (List Nat))=_
  rw[Nat.ble_eq_true_of_le (by have:=x.toNat_lt;omega)];rfl
theorem Aoq:∀l:List UInt8,Tl (l.map (·.toNat))=enc l
 |[]=>rfl
 |x::l=>by
  show x.toNat+256*Tl (l.map (·.toNat))=_
  rw[Aoq l];rfl
theorem Aj8(l:List UInt8):strOf (l.map (·.toNat))=S l:=by
 show AV.str (len (l.map (·.toNat))) (Tl (l.map (·.toNat)))=_
 rw[Di,List.length_map,Aoq]
abbrev TB:TypeId:=5
def ei8:TI:=⟨.int .u8,1,1,[.int .u8 (.ofNat 0)],false,true,[]⟩
def T1(n:Int):Tm:=Ai [.int .u8 n] 0 (Ai [.int .u8 (.ofNat 0)] 0 .e)
theorem Bgk(n:Int)(h:H):Ao env 115 (fun e ei=>Ak 1 [(0,.int .u8 n)] h e ei)=some (.slice h.next 0 1 1 true,h.new (.row (T1 n) 1 0 TB true)):=by kernel_rfl
theorem A2a(x y:AV)(h:H):Aq env .append [115,115] [x,y] h=Dc (some false) x y h TB ei8:=by kernel_rfl
theorem Bgw(x y:AV)(h:H):Aq env .append [115,9] [x,y] h=Dc (some false) x y h TB ei8:=by kernel_rfl
def Dy(t:Tm)(l:List UInt8):Prop:=∀i (hi:i<l.length),Bh t i=ub l[i]
theorem Dy.get{t:Tm}{l:List UInt8}(hc:Dy t l):Cq t l.length 0=ubs l:=by
 rw[Gt]
 apply List.ext_getElem
 · simp[ubs]
 · intro i h1 h2
   have hi:i<l.length:=by simpa using h1
   simp only[List.getElem_map,List.getElem_range,ubs,Nat.zero_add]
   exact hc i hi
theorem Dy.app{t:Tm}{l m:List UInt8}(hc:Dy t l):Dy (Ai (ubs m) l.length t) (l++m):=by
 intro i hi
 rw[Ar]
 by_cases h:i<l.length
 · rw[if_neg (by omega),hc i h,List.getElem_append_left h]
 · have h1:i-l.length<m.length:=by rw[List.length_append] at hi;omega
   rw[if_pos (by constructor;omega;rw[ubs,List.length_map];omega),List.getD_eq_getElem?_getD,ubs,List.getElem?_map,List.getElem?_eq_getElem h1,List.getElem_append_right (by omega)]
   rfl
theorem Dy.new(m:List UInt8)(t:Tm):Dy (Ai (ubs m) 0 t) m:=Dy.app (l:=[]) (t:=t) (fun _ h=>absurd h (Nat.not_lt_zero _))
def Buf(g:Bool)(h:H)(v:AV)(l:List UInt8):Prop:=(v=.Ad∧l=[])∨∃q t m z w,v=.slice q 0 l.length 1 false∧q.nat<h.next.nat∧h.at q=.row t m z TB w∧l.length≤m∧z≤l.length∧Dy t l∧(g=true∨l≠[])
theorem Buf.one{g:Bool}{h:H}{v:AV}{l:List UInt8}(hb:Buf g h v l):v.one=true:=by
 rcases hb with⟨rfl,_⟩|⟨_,_,_,_,_,rfl,_⟩<;>rfl
def Abb(h h':H):Prop:=h.next.nat≤h'.next.nat∧∀q t m z w,h.at q=.row t m z TB w→q.nat<h.next.nat→h'.at q=h.at q
theorem Abb.new{h:H}{o:Ob FT}:Abb h (h.new o):=⟨by rw[Be];omega,fun q t m z w _ hq=>Dd hq⟩
theorem Abb.put{h:H}{o:Ob FT}{b:P}{t:Tm}{n z:Nat}{e:TypeId}{w:Bool}(ha:h.at b=.row t n z e w)(he:e≠TB):Abb h (h.put b o):=
 ⟨Nat.le_refl _,fun q t' m z' w' h1 _=>Cd fun e'=>by subst e';rw[ha] at h1;cases h1;exact he rfl⟩
theorem Buf.mono{g:Bool}{h h':H}{v:AV}{l:List UInt8}(hb:Buf g h v l)(k:Abb h h'):Buf g h' v l:=by
 rcases hb with⟨rfl,rfl⟩|⟨q,t,m,z,w,rfl,h1,h2,h3⟩
 · exact .inl ⟨rfl,rfl⟩
 · exact .inr ⟨q,t,m,z,w,rfl,Nat.lt_of_lt_of_le h1 k.1,by rw[k.2 q t m z w h2 h1];exact h2,h3⟩
theorem Aiy{n:Nat}(hn:n≤1099511627776):Cf ei8 n=true:=by
 have e:Cf ei8 n=Ah (Ah true true) (Ah (Nat.ble n 1099511627776) (Nat.ble (Nat.mul n 1) 140737488355328)):=rfl
 rw[e,Nat.ble_eq_true_of_le hn,Nat.ble_eq_true_of_le (show Nat.mul n 1≤140737488355328 by show n*1≤_;omega)];rfl
theorem A19{g:Bool}{h:H}{v x:AV}{l m:List UInt8}(hb:Buf g h v l)(hx:Bv h 1 x=some (m.length,ubs m))(hm:m≠[])(hl:l.length+m.length≤1099511627776):
 ∃v' h',Dc (some false) v x h TB ei8=some (v',h')∧Buf false h' v' (l++m)∧h.next.nat≤h'.next.nat∧∀c t n z w e,h.at c=.row t n z e w→e≠TB→c.nat<h.next.nat→h'.at c=h.at c:=by
 have hne:l++m≠[]:=by simp[hm]
 have h0:Nat.beq m.length 0=false:=by
  cases m with
  |nil=>exact absurd rfl hm
  |cons _ _=>rfl
 have e0:Dc (some false) v x h TB ei8=(Bool.rec none (Ip TB 1 v m.length (ubs m) h) (Ah (Eu v) (Cf ei8 (Nat.add (Em v) m.length))):Option (AV×H)):=by
  show(Option.rec none (fun p=>Bool.rec none (Bool.rec (Ip TB 1 v p.1 p.2 h) (some (v,h)) (Nat.beq p.1 0)) (Ah (Eu v) (Cf ei8 (Nat.add (Em v) p.1)))) (Bv h 1 x):Option (AV×H))=_
  rw[hx]
  show(Bool.rec none (Bool.rec (Ip TB 1 v m.length (ubs m) h) (some (v,h)) (Nat.beq m.length 0)) (Ah (Eu v) (Cf ei8 (Nat.add (Em v) m.length))):Option (AV×H))=_
  rw[h0]
 rw[e0]
 rcases hb with⟨rfl,rfl⟩|⟨q,t,n,z,w,rfl,h1,h2,h3,h4,h5,h6⟩
 · have hf:Cf ei8 (Nat.add (Em .Ad) m.length)=true:=Aiy (by show 0+m.length≤_;simp at hl;omega)
   rw[hf]
   refine⟨.slice h.next 0 m.length 1 false,h.new (.row (Ai (ubs m) 0 .e) (Nat.mul m.length 1) 0 TB false),rfl,.inr ⟨h.next,Ai (ubs m) 0 .e,Nat.mul m.length 1,0,false,rfl,by rw[Be];omega,Ay _ _,?_,Nat.zero_le _,Dy.new _ _,.inr hne⟩,by rw[Be];omega,fun c t n z w e _ _ hc=>Dd hc⟩
   show([]++m).length≤m.length*1
   simp
 · have hf:Cf ei8 (Nat.add (Em (.slice q 0 l.length 1 false)) m.length)=true:=Aiy (by show l.length+m.length≤_;omega)
   rw[hf]
   show∃v' h',(Te TB q 0 l.length m.length 1 (ubs m) h (Dx (h.at q)):Option (AV×H))=some (v',h')∧_
   rw[h2]
   have hc1:Ah (Ah (Nat.beq TB TB) (Nat.beq 0 0)) (Ah (Nat.ble (Nat.add 0 (Nat.mul l.length 1)) n) (Nat.ble z (Nat.add 0 (Nat.mul l.length 1))))=true:=by
    rw[Nat.ble_eq_true_of_le (show Nat.add 0 (Nat.mul l.length 1)≤n by show 0+l.length*1≤n;omega),Nat.ble_eq_true_of_le (show z≤Nat.add 0 (Nat.mul l.length 1) by show z≤0+l.length*1;omega)];rfl
   show∃v' h',(Bool.rec none (some (.slice h.next 0 (Nat.add l.length m.length) 1 false,(h.put q .dead).new (.row (Ai (ubs m) (Nat.add 0 (Nat.mul l.length 1)) t) (Nat.add 0 (Nat.mul (Nat.add l.length m.length) 1)) z TB false))) (Ah (Ah (Nat.beq TB TB) (Nat.beq 0 0)) (Ah (Nat.ble (Nat.add 0 (Nat.mul l.length 1)) n) (Nat.ble z (Nat.add 0 (Nat.mul l.length 1))))):Option (AV×H))=some (v',h')∧_
   rw[hc1]
   have e1:Nat.add 0 (Nat.mul l.length 1)=l.length:=by show 0+l.length*1=_;omega
   have e2:Nat.add 0 (Nat.mul (Nat.add l.length m.length) 1)=(l++m).length:=by rw[List.length_append];show 0+(l.length+m.length)*1=_;omega
   have e3:Nat.add l.length m.length=(l++m).length:=by rw[List.length_append];rfl
   rw[e1,e2,e3]
   refine⟨_,_,rfl,.inr ⟨h.next,_,_,z,false,rfl,?_,Ay (h.put q .dead) _,Nat.le_refl _,by rw[List.length_append];omega,h5.app,.inr hne⟩,?_,fun c t' n' z' w' e hc he hlt=>?_⟩
   · show h.next.nat<(P.succ h.next).nat
     rw[P.Dn];omega
   · show h.next.nat≤(P.succ h.next).nat
     rw[P.Dn];omega
   · have hcq:c≠q:=fun e'=>by subst e';rw[h2] at hc;cases hc;exact he rfl
     rw[Dd (show c.nat<(h.put q .dead).next.nat from hlt),Cd hcq]
def Bld(g:Bool)(h:H)(b:P)(l:List UInt8):Prop:=∃t,h.at b=.row t 2 0 149 true∧b.nat<h.next.nat∧(Bh t 0=.Fq∨Bh t 0=.ptr b 0)∧Buf g h (Bh t 1) l
theorem Bld.new(h:H):Bld false (h.new Wr) h.next []:=
 ⟨Ai [.Fq,.Ad] 0 .e,Ay _ _,by rw[Be];omega,.inl (by kernel_rfl),.inl ⟨by kernel_rfl,rfl⟩⟩
theorem Li{b:P}{o n z:Nat}{t:Bool}{K:Nat→Prop}:Ef (.slice b o n z t) K=K n:=rfl
theorem Qz{K:Nat→Prop}:Ef .Ad K=K 0:=rfl
theorem Au3{A:Prop}:eqC .Ad .Ad A=A:=rfl
theorem Bj{b:P}{o:Nat}{h:H}:Ck (.ptr b o) h=some (.ptr b o,h):=rfl
theorem Hl{b:P}{K:AV→Prop}:Am 0 (.ptr b 0) K=K (.ptr b 0):=rfl
theorem Ev{b:P}{K:AV→Prop}:Am 1 (.ptr b 0) K=K (.ptr b 1):=rfl
theorem Bl3{b:P}{h:H}{k:KV}(hk:k (.ptr b 0) h):W1 (.func 164) [.ptr b 0] h k:=by
 refine A9j ?_
 refine Cj rfl ?_
 rw[show Hf .Ih [.ptr b 0] h=some (.ptr b 0,h) from rfl,Ae]
 exact hk
theorem Bdb(b:P):Kz env .neq 147 (.ptr b 0) (.ptr b 0)=some (.bool false):=by
 have e:eqA env 147 (.ptr b 0) (.ptr b 0)=(Bool.rec none (some true) (P.beq b b):Option Bool):=by kernel_rfl
 have e2:Kz env .neq 147 (.ptr b 0) (.ptr b 0)=An7 (eqA env 147 (.ptr b 0) (.ptr b 0)):=rfl
 rw[e2,e,P.beq_refl];rfl
theorem Bec(b:P):Kz env .eql 147 (.ptr b 0) .Fq=some (.bool false):=by kernel_rfl
theorem A51:Kz env .eql 147 .Fq .Fq=some (.bool true):=by kernel_rfl
section
variable{h:H}{b:P}{t:Tm}
theorem A85(ha:h.at b=.row t 2 0 149 true):Gh env h 147 258 (.ptr b 0)=some (.ptr b 0,h):=by
 have e:Gh env h 147 258 (.ptr b 0)=Kr env 147 b 0 h (Dx (h.at b)):=by kernel_rfl
 have e2:Kr env 147 b 0 h (Dx (Ob.row t 2 0 149 true:Ob FT))=some (.ptr b 0,h):=by kernel_rfl
 rw[e,ha,e2]
theorem A84(ha:h.at b=.row t 2 0 149 true):Gh env h 258 147 (.ptr b 0)=some (.ptr b 0,h):=by
 have e:Gh env h 258 147 (.ptr b 0)=Nw env b 0 149 h (Dx (h.at b)):=by kernel_rfl
 have e2:Nw env b 0 149 h (Dx (Ob.row t 2 0 149 true:Ob FT))=some (.ptr b 0,h):=by kernel_rfl
 rw[e,ha,e2]
theorem A0n{k:KV}(ha:h.at b=.row t 2 0 149 true)(h0:Bh t 0=.Fq∨Bh t 0=.ptr b 0)
 (hk:∀h' t',h'.at b=.row t' 2 0 149 true→Bh t' 0=.ptr b 0→Bh t' 1=Bh t 1→h'.next=h.next→(∀c,c≠b→h'.at c=h.at c)→k (.tuple []) h'):W1 (.func 110) [.ptr b 0] h k:=by
 refine Bat (n:=1) Bl (Bky ?_)
 unfold Afb
 rw[Bj,Ae,Hl]
 refine Cz ha (by decide) ?_
 rcases h0 with h0|h0
 · rw[h0,A51,Jd,Ce]
   refine Cj rfl ?_
   rw[A85 ha,Ae]
   refine Bl3 ?_
   rw[A84 ha,Ae,Bj,Ae,Hl]
   refine Ph ha (Nat.le_refl _) (by decide) rfl ?_
   refine hk _ _ (Bk _ _ _) ?_ ?_ rfl (fun c hc=>Cd hc)
   · rw[Ar];simp
   · rw[Ar];simp
 · rw[h0,Bec,Jd,Ce]
   refine Bo rfl ?_
   rw[Bj,Ae,Hl]
   refine Cz ha (by decide) ?_
   rw[h0,Bdb,Jd,Ce]
   refine Bo rfl ?_
   exact hk h t ha h0 rfl rfl (fun _ _=>rfl)
end
theorem Bld.start{g:Bool}{h:H}{b:P}{l:List UInt8}{t:Tm}(ha:h.at b=.row t 2 0 149 true)(hb:Buf g h (Bh t 1) l){h':H}{t':Tm}(h1:h'.next=h.next)(h2:∀c,c≠b→h'.at c=h.at c)(h3:Bh t' 1=Bh t 1):Buf g h' (Bh t' 1) l:=by
 rw[h3]
 exact hb.mono ⟨by rw[h1];exact Nat.le_refl _,fun q t m z w e _=>h2 q fun e'=>by subst e';rw[ha] at e;cases e⟩
theorem Bld.fin{g:Bool}{h:H}{b:P}{l:List UInt8}{t:Tm}{v:AV}{k:H→Prop}(ha:h.at b=.row t 2 0 149 true)(hn:b.nat<h.next.nat)(h0:Bh t 0=.ptr b 0)(hb:Buf g h v l)(hk:∀h',Bld g h' b l→k h'):st1 (.ptr b 1) v h k:=by
 refine Ph ha (Nat.zero_le _) (by decide) hb.one ?_
 refine hk _ ⟨_,Bk _ _ _,hn,.inr (by rw[Ar];simp[h0]),?_⟩
 have:Bh (Ai [v] 1 t) 1=v:=by rw[Ar];simp
 rw[this]
 exact hb.mono (Abb.put ha (by decide))
theorem Awa{g:Bool}{h:H}{b:P}{l:List UInt8}{x:UInt8}{k:KV}(hb:Bld g h b l)(hl:l.length+1≤1099511627776)(hk:∀h',Bld false h' b (l++[x])→k .He h'):W1 (.func 107) [.ptr b 0,.int .u8 (Int.ofNat x.toNat)] h k:=by
 obtain⟨t,ha,hn,h0,hbuf⟩:=hb
 refine Baw (n:=1) Bl (Bk1 ?_)
 unfold Afg
 refine A0n ha h0 fun h1 t1 a1 p1 q1 n1 f1=>?_
 rw[Bj,Ae,Ev]
 refine Cz a1 (by decide) ?_
 rw[Bgk,Ae]
 have hbuf1:=(Bld.start ha hbuf n1 f1 q1).mono (Abb.new (o:=.row (T1 (Int.ofNat x.toNat)) 1 0 TB true))
 have hx:Bv (h1.new (.row (T1 (Int.ofNat x.toNat)) 1 0 TB true)) 1 (.slice h1.next 0 1 1 true)=some ([x].length,ubs [x]):=by
  show(Option.rec none (fun cs=>some (1,cs)) ((h1.new (.row (T1 (Int.ofNat x.toNat)) 1 0 TB true)).read h1.next 0 1):Option (Nat×List AV))=_
  have hr:(h1.new (.row (T1 (Int.ofNat x.toNat)) 1 0 TB true)).read h1.next 0 1=some (ubs [x]):=by
   show Hp.Hu _ _ _ _ _ _=_
   unfold Hp.Hu
   rw[Ay]
   kernel_rfl
  rw[hr];rfl
 obtain⟨v',h3,e3,b3,n3,f3⟩:=A19 hbuf1 hx (by simp) hl
 rw[A2a,e3,Ae,Bj,Ae,Ev]
 have hn1:b.nat<h1.next.nat:=by rw[n1];exact hn
 have a2:(h1.new (.row (T1 (Int.ofNat x.toNat)) 1 0 TB true)).at b=.row t1 2 0 149 true:=by rw[Dd hn1];exact a1
 have hn2:b.nat<(h1.new (.row (T1 (Int.ofNat x.toNat)) 1 0 TB true)).next.nat:=by rw[Be];omega
 exact Bld.fin (by rw[f3 b _ _ _ _ _ a2 (by decide) hn2];exact a2) (Nat.lt_of_lt_of_le hn2 n3) p1 b3 fun h' hb'=>hk h' hb'
theorem Ri(h:H):∀(l:List UInt8),Bv h 1 (S l)=some (l.length,ubs l):=fun l=>by
 show(some (l.length,byteCells l.length (enc l)):Option (Nat×List AV))=_
 have:∀l:List UInt8,byteCells l.length (enc l)=ubs l:=by
  intro l
  induction l with
  |nil=>rfl
  |cons x l ih=>
   obtain⟨h1,h2⟩:=Re x l
   show(.int .u8 (.ofNat (Nat.mod (enc (x::l)) 256))::byteCells l.length (Nat.div (enc (x::l)) 256):List AV)=_
   rw[h1,h2,ih];rfl
 rw[this]
theorem c61{g:Bool}{h:H}{b:P}{l m:List UInt8}{k:KV}(hb:Bld g h b l)(hm:m≠[])(hl:l.length+m.length≤1099511627776)(hk:∀v h',Bld false h' b (l++m)→k v h'):W1 (.func 61) [.ptr b 0,S m] h k:=by
 obtain⟨t,ha,hn,h0,hbuf⟩:=hb
 refine w61 (n:=1) Bl (g61 ?_)
 unfold Ahi
 refine A0n ha h0 fun h1 t1 a1 p1 q1 n1 f1=>?_
 rw[Bj,Ae,Ev]
 refine Cz a1 (by decide) ?_
 have hbuf1:=Bld.start ha hbuf n1 f1 q1
 obtain⟨v',h3,e3,b3,n3,f3⟩:=A19 hbuf1 (Ri h1 m) hm hl
 rw[Bgw,e3,Ae,Bj,Ae,Ev]
 have hn1:b.nat<h1.next.nat:=by rw[n1];exact hn
 exact Bld.fin (by rw[f3 b _ _ _ _ _ a1 (by decide) hn1];exact a1) (Nat.lt_of_lt_of_le hn1 n3) p1 b3 fun h' hb'=>hk _ h' hb'
theorem Aq9(x y:AV)(h:H):Aq env .unsafeString [225,3] [x,y] h=Jq env x (Bc y) h:=by kernel_rfl
theorem Ayc(x:AV)(h:H):Aq env .unsafeSliceData [115] [x] h=Fj x h:=rfl
theorem isB:isByte env TB=true:=by kernel_rfl
theorem c63{g:Bool}{h:H}{b:P}{l:List UInt8}{k:KV}(hb:Bld g h b l)(hg:g=false∨l≠[])(hl:l.length≤9223372036854775807)(hk:∀h',k (S l) h'):W1 (.func 63) [.ptr b 0] h k:=by
 obtain⟨t,ha,hn,h0,hbuf⟩:=hb
 refine w63 (n:=1) Bl (g63 ?_)
 unfold Ahh
 rw[Bj,Ae,Ev]
 refine Cz ha (by decide) ?_
 rcases hbuf with⟨e,rfl⟩|⟨q,t1,m,z,w,e,h1,h2,h3,h4,h5,h6⟩
 · rw[e,Ayc]
   rw[show(Fj AV.Ad h:Option (AV×H))=some (.Fq,h) from rfl,Ae,Bj,Ae,Ev]
   refine Cz ha (by decide) ?_
   rw[e]
   show oK (Aq env .unsafeString [225,3] [.Fq,.int .i64 (Int.ofNat 0)] h) _
   rw[Aq9,show(Jq env .Fq (Bc (.int .i64 (Int.ofNat 0))) h:Option (AV×H))=some (.str 0 0,h) from rfl,Ae]
   exact hk h
 · have hne:l≠[]:=by
    rcases hg with rfl|hg
    · rcases h6 with h6|h6
      · cases h6
      · exact h6
    · exact hg
   have hpos:l.length=(l.length-1)+1:=by
    cases l with
    |nil=>exact absurd rfl hne
    |cons _ _=>simp
   have e1:(Fj (.slice q 0 l.length 1 false) h:Option (AV×H))=some (.ptr q 0,h):=by rw[hpos];rfl
   rw[e,Ayc,e1,Ae,Bj,Ae,Ev]
   refine Cz ha (by decide) ?_
   rw[e,Li,Aq9]
   have e2:Jq env (.ptr q 0) (Bc (.int .i64 (Int.ofNat l.length))) h=(Bool.rec (Ab4 env q 0 l.length h (Dx (h.at q))) (some (.str 0 0,h)) (Nat.beq l.length 0):Option (AV×H)):=rfl
   have e3:Nat.beq l.length 0=false:=by rw[hpos];rfl
   rw[e2,e3,h2]
   show oK (Bool.rec none (Nb (h.put q (.row t1 m (Nat.add m 1) TB w)) (Et (Cq t1 l.length 0))) (Ah (isByte env TB) (Ah (Nat.ble (Nat.add 0 l.length) m) (Nat.ble l.length (intMax .i64)))):Option (AV×H)) _
   rw[isB,Nat.ble_eq_true_of_le (show Nat.add 0 l.length≤m by show 0+l.length≤m;omega),Nat.ble_eq_true_of_le (show l.length≤intMax .i64 from hl),h5.get,Vg]
   show oK (some (strOf (l.map (·.toNat)),h.put q (.row t1 m (Nat.add m 1) TB w)):Option (AV×H)) _
   rw[Aj8,Ae]
   exact hk _
end Go.Den
