/-
  A part of the proof: bytes in memory, and strings that are built there.
-/
import Derived.Test.YtpjkiikmjddpiaaGreatDoorFlts
namespace Go.Den
open Go.RowKit
set_option maxRecDepth 100000
theorem P.beq_refl:∀p:P,P.beq p p=true
  |.z=>rfl
  |.l p=>P.beq_refl p
  |.r p=>P.beq_refl p
section
variable{h:H}{o:Ob FT}{b c:P}
theorem at_new_o(hb:b.nat<h.next.nat):(h.new o).at b=h.at b:=by
  rw[at_new,if_neg (fun e=>by subst e;exact absurd hb (Nat.lt_irrefl _))]
theorem at_put_o(hc:c≠b):(h.put b o).at c=h.at c:=by rw[at_put,if_neg hc]
theorem next_new:(h.new o).next.nat=h.next.nat+1:=P.nat_succ _
theorem next_put:(h.put b o).next=h.next:=rfl
end
/-- bytes as cells -/
def ub(x:UInt8):AV:=.int .u8 (Int.ofNat x.toNat)
def ubs(l:List UInt8):List AV:=l.map ub
theorem cells_u8:∀l:List UInt8,cellBytes (ubs l)=some (l.map (·.toNat))
  |[]=>rfl
  |x::l=>by
    show(Option.rec none (fun n=>Option.rec none (fun l=>Bool.rec none (some (n::l)) (Nat.ble n 255)) (cellBytes (ubs l))) (byteOfCell (ub x)):Option (List Nat))=_
    rw[show byteOfCell (ub x)=some x.toNat from rfl,cells_u8 l]
    show(Bool.rec none (some (x.toNat::l.map (·.toNat))) (Nat.ble x.toNat 255):Option (List Nat))=_
    rw[Nat.ble_eq_true_of_le (by have:=x.toNat_lt;omega)];rfl
theorem fold_u8:∀l:List UInt8,strFold (l.map (·.toNat))=enc l
  |[]=>rfl
  |x::l=>by
    show x.toNat+256*strFold (l.map (·.toNat))=_
    rw[fold_u8 l];rfl
theorem str_u8(l:List UInt8):strOf (l.map (·.toNat))=S l:=by
  show AV.str (len (l.map (·.toNat))) (strFold (l.map (·.toNat)))=_
  rw[len_eq,List.length_map,fold_u8]
abbrev TB:TypeId:=5
noncomputable def ei8:TI:=⟨.int .u8,1,1,[.int .u8 (.ofNat 0)],false,true,[]⟩
theorem we37(K:TypeId→TI→Option (AV×H)):withElem env 79 K=K TB ei8:=by kernel_rfl
noncomputable def T1 (n:Int):Tm:=tlist [.int .u8 n] 0 (tlist [.int .u8 (.ofNat 0)] 0 .e)
theorem bld1(n:Int)(h:H):withElem env 79 (fun e ei=>exBuildSlice 1 [(0,.int .u8 n)] h e ei)=some (.slice h.next 0 1 1 true,h.new (.row (T1 n) 1 0 TB true)):=by kernel_rfl
theorem app37(x y:AV)(h:H):builtinA env .append [79,79] [x,y] h=exAppend (some false) x y h TB ei8:=by kernel_rfl
theorem app9(x y:AV)(h:H):builtinA env .append [79,9] [x,y] h=exAppend (some false) x y h TB ei8:=by kernel_rfl
/-- cells n of a row from 0 on are those bytes -/
def CellsAre(t:Tm)(l:List UInt8):Prop:=∀i (hi:i<l.length),tget t i=ub l[i]
theorem CellsAre.get{t:Tm}{l:List UInt8}(hc:CellsAre t l):getCells t l.length 0=ubs l:=by
  rw[getCells_eq]
  apply List.ext_getElem
  · simp[ubs]
  · intro i h1 h2
    have hi:i<l.length:=by simpa using h1
    simp only[List.getElem_map,List.getElem_range,ubs,Nat.zero_add]
    exact hc i hi
theorem CellsAre.app{t:Tm}{l m:List UInt8}(hc:CellsAre t l):CellsAre (tlist (ubs m) l.length t) (l++m):=by
  intro i hi
  rw[tget_tlist]
  by_cases h:i<l.length
  · rw[if_neg (by omega),hc i h,List.getElem_append_left h]
  · have h1:i-l.length<m.length:=by rw[List.length_append] at hi;omega
    rw[if_pos (by constructor;omega;rw[ubs,List.length_map];omega),List.getD_eq_getElem?_getD,ubs,List.getElem?_map,List.getElem?_eq_getElem h1,List.getElem_append_right (by omega)]
    rfl
theorem CellsAre.new(m:List UInt8)(t:Tm):CellsAre (tlist (ubs m) 0 t) m:=CellsAre.app (l:=[]) (t:=t) (fun _ h=>absurd h (Nat.not_lt_zero _))
/-- what is appended to: it holds those bytes -/
def Buf(g:Bool)(h:H)(v:AV)(l:List UInt8):Prop:=(v=.nils∧l=[])∨∃q t m z w,v=.slice q 0 l.length 1 false∧q.nat<h.next.nat∧h.at q=.row t m z TB w∧l.length≤m∧z≤l.length∧CellsAre t l∧(g=true∨l≠[])
theorem Buf.one{g:Bool}{h:H}{v:AV}{l:List UInt8}(hb:Buf g h v l):v.one=true:=by
  rcases hb with⟨rfl,_⟩|⟨_,_,_,_,_,rfl,_⟩<;>rfl
/-- whose rows of bytes are kept -/
def Keeps(h h':H):Prop:=h.next.nat≤h'.next.nat∧∀q t m z w,h.at q=.row t m z TB w→q.nat<h.next.nat→h'.at q=h.at q
theorem Keeps.trans{h h1 h2:H}(a:Keeps h h1)(b:Keeps h1 h2):Keeps h h2:=
  ⟨Nat.le_trans a.1 b.1,fun q t m z w e hq=>by rw[b.2 q t m z w (by rw[a.2 q t m z w e hq];exact e) (Nat.lt_of_lt_of_le hq a.1),a.2 q t m z w e hq]⟩
theorem Keeps.new{h:H}{o:Ob FT}:Keeps h (h.new o):=⟨by rw[next_new];omega,fun q t m z w _ hq=>at_new_o hq⟩
theorem Keeps.put{h:H}{o:Ob FT}{b:P}{t:Tm}{n z:Nat}{e:TypeId}{w:Bool}(ha:h.at b=.row t n z e w)(he:e≠TB):Keeps h (h.put b o):=
  ⟨Nat.le_refl _,fun q t' m z' w' h1 _=>at_put_o fun e'=>by subst e';rw[ha] at h1;cases h1;exact he rfl⟩
theorem Buf.mono{g:Bool}{h h':H}{v:AV}{l:List UInt8}(hb:Buf g h v l)(k:Keeps h h'):Buf g h' v l:=by
  rcases hb with⟨rfl,rfl⟩|⟨q,t,m,z,w,rfl,h1,h2,h3⟩
  · exact .inl ⟨rfl,rfl⟩
  · exact .inr ⟨q,t,m,z,w,rfl,Nat.lt_of_lt_of_le h1 k.1,by rw[k.2 q t m z w h2 h1];exact h2,h3⟩
theorem fits8{n:Nat}(hn:n≤1099511627776):fitsMem ei8 n=true:=by
  have e:fitsMem ei8 n=band (band true true) (band (Nat.ble n 1099511627776) (Nat.ble (Nat.mul n 1) 140737488355328)):=rfl
  rw[e,Nat.ble_eq_true_of_le hn,Nat.ble_eq_true_of_le (show Nat.mul n 1≤140737488355328 by show n*1≤_;omega)];rfl
theorem app_b{g:Bool}{h:H}{v x:AV}{l m:List UInt8}(hb:Buf g h v l)(hx:cellsOfArg h 1 x=some (m.length,ubs m))(hm:m≠[])(hl:l.length+m.length≤1099511627776):
    ∃v' h',exAppend (some false) v x h TB ei8=some (v',h')∧Buf false h' v' (l++m)∧h.next.nat≤h'.next.nat∧∀c t n z w e,h.at c=.row t n z e w→e≠TB→c.nat<h.next.nat→h'.at c=h.at c:=by
  have hne:l++m≠[]:=by simp[hm]
  have h0:Nat.beq m.length 0=false:=by
    cases m with
    |nil=>exact absurd rfl hm
    |cons _ _=>rfl
  have e0:exAppend (some false) v x h TB ei8=(Bool.rec none (appTo TB 1 v m.length (ubs m) h) (band (okSlice v) (fitsMem ei8 (Nat.add (lenOfS v) m.length))):Option (AV×H)):=by
    show(Option.rec none (fun p=>Bool.rec none (Bool.rec (appTo TB 1 v p.1 p.2 h) (some (v,h)) (Nat.beq p.1 0)) (band (okSlice v) (fitsMem ei8 (Nat.add (lenOfS v) p.1)))) (cellsOfArg h 1 x):Option (AV×H))=_
    rw[hx]
    show(Bool.rec none (Bool.rec (appTo TB 1 v m.length (ubs m) h) (some (v,h)) (Nat.beq m.length 0)) (band (okSlice v) (fitsMem ei8 (Nat.add (lenOfS v) m.length))):Option (AV×H))=_
    rw[h0]
  rw[e0]
  rcases hb with⟨rfl,rfl⟩|⟨q,t,n,z,w,rfl,h1,h2,h3,h4,h5,h6⟩
  · have hf:fitsMem ei8 (Nat.add (lenOfS .nils) m.length)=true:=fits8 (by show 0+m.length≤_;simp at hl;omega)
    rw[hf]
    refine⟨.slice h.next 0 m.length 1 false,h.new (.row (tlist (ubs m) 0 .e) (Nat.mul m.length 1) 0 TB false),rfl,.inr ⟨h.next,tlist (ubs m) 0 .e,Nat.mul m.length 1,0,false,rfl,by rw[next_new];omega,at_new_same _ _,?_,Nat.zero_le _,CellsAre.new _ _,.inr hne⟩,by rw[next_new];omega,fun c t n z w e _ _ hc=>at_new_o hc⟩
    show([]++m).length≤m.length*1
    simp
  · have hf:fitsMem ei8 (Nat.add (lenOfS (.slice q 0 l.length 1 false)) m.length)=true:=fits8 (by show l.length+m.length≤_;omega)
    rw[hf]
    show∃v' h',(appRow TB q 0 l.length m.length 1 (ubs m) h (asRow (h.at q)):Option (AV×H))=some (v',h')∧_
    rw[h2]
    have hc1:band (band (Nat.beq TB TB) (Nat.beq 0 0)) (band (Nat.ble (Nat.add 0 (Nat.mul l.length 1)) n) (Nat.ble z (Nat.add 0 (Nat.mul l.length 1))))=true:=by
      rw[Nat.ble_eq_true_of_le (show Nat.add 0 (Nat.mul l.length 1)≤n by show 0+l.length*1≤n;omega),Nat.ble_eq_true_of_le (show z≤Nat.add 0 (Nat.mul l.length 1) by show z≤0+l.length*1;omega)];rfl
    show∃v' h',(Bool.rec none (some (.slice h.next 0 (Nat.add l.length m.length) 1 false,(h.put q .dead).new (.row (tlist (ubs m) (Nat.add 0 (Nat.mul l.length 1)) t) (Nat.add 0 (Nat.mul (Nat.add l.length m.length) 1)) z TB false))) (band (band (Nat.beq TB TB) (Nat.beq 0 0)) (band (Nat.ble (Nat.add 0 (Nat.mul l.length 1)) n) (Nat.ble z (Nat.add 0 (Nat.mul l.length 1))))):Option (AV×H))=some (v',h')∧_
    rw[hc1]
    have e1:Nat.add 0 (Nat.mul l.length 1)=l.length:=by show 0+l.length*1=_;omega
    have e2:Nat.add 0 (Nat.mul (Nat.add l.length m.length) 1)=(l++m).length:=by rw[List.length_append];show 0+(l.length+m.length)*1=_;omega
    have e3:Nat.add l.length m.length=(l++m).length:=by rw[List.length_append];rfl
    rw[e1,e2,e3]
    refine⟨_,_,rfl,.inr ⟨h.next,_,_,z,false,rfl,?_,at_new_same (h.put q .dead) _,Nat.le_refl _,by rw[List.length_append];omega,h5.app,.inr hne⟩,?_,fun c t' n' z' w' e hc he hlt=>?_⟩
    · show h.next.nat<(P.succ h.next).nat
      rw[P.nat_succ];omega
    · show h.next.nat≤(P.succ h.next).nat
      rw[P.nat_succ];omega
    · have hcq:c≠q:=fun e'=>by subst e';rw[h2] at hc;cases hc;exact he rfl
      rw[at_new_o (show c.nat<(h.put q .dead).next.nat from hlt),at_put_o hcq]
/-- a strings.Builder that holds those bytes -/
def Bld(g:Bool)(h:H)(b:P)(l:List UInt8):Prop:=∃t,h.at b=.row t 2 0 160 true∧b.nat<h.next.nat∧(tget t 0=.nilp∨tget t 0=.ptr b 0)∧Buf g h (tget t 1) l
theorem Bld.new(h:H):Bld false (h.new ob160) h.next []:=
  ⟨tlist [.nilp,.nils] 0 .e,at_new_same _ _,by rw[next_new];omega,.inl (by kernel_rfl),.inl ⟨by kernel_rfl,rfl⟩⟩
theorem lenV_sl{b:P}{o n z:Nat}{t:Bool}{K:Nat→Prop}:lenV (.slice b o n z t) K=K n:=rfl
theorem lenV_nils{K:Nat→Prop}:lenV .nils K=K 0:=rfl
theorem eqC_nils{A:Prop}:eqC .nils .nils A=A:=rfl
theorem exNil_p{b:P}{o:Nat}{h:H}:exNil (.ptr b o) h=some (.ptr b o,h):=rfl
theorem fAddr_0{b:P}{K:AV→Prop}:fAddr 0 (.ptr b 0) K=K (.ptr b 0):=rfl
theorem fAddr_1{b:P}{K:AV→Prop}:fAddr 1 (.ptr b 0) K=K (.ptr b 1):=rfl
theorem c112{b:P}{h:H}{k:KV}(hk:k (.ptr b 0) h):W1 (.func 112) [.ptr b 0] h k:=by
  refine x112 ?_
  refine cnd_t rfl ?_
  rw[show extA .noEscape [.ptr b 0] h=some (.ptr b 0,h) from rfl,oK_some]
  exact hk
theorem neq57(b:P):binA env .neq 158 (.ptr b 0) (.ptr b 0)=some (.bool false):=by
  have e:eqA env 158 (.ptr b 0) (.ptr b 0)=(Bool.rec none (some true) (P.beq b b):Option Bool):=by kernel_rfl
  have e2:binA env .neq 158 (.ptr b 0) (.ptr b 0)=neAns (eqA env 158 (.ptr b 0) (.ptr b 0)):=rfl
  rw[e2,e,P.beq_refl];rfl
theorem eql57(b:P):binA env .eql 158 (.ptr b 0) .nilp=some (.bool false):=by kernel_rfl
theorem eql57n:binA env .eql 158 .nilp .nilp=some (.bool true):=by kernel_rfl
section
variable{h:H}{b:P}{t:Tm}
theorem bconv1(ha:h.at b=.row t 2 0 160 true):convA env h 158 238 (.ptr b 0)=some (.ptr b 0,h):=by
  have e:convA env h 158 238 (.ptr b 0)=toUnsafe env 158 b 0 h (asRow (h.at b)):=by kernel_rfl
  have e2:toUnsafe env 158 b 0 h (asRow (Ob.row t 2 0 160 true:Ob FT))=some (.ptr b 0,h):=by kernel_rfl
  rw[e,ha,e2]
theorem bconv2(ha:h.at b=.row t 2 0 160 true):convA env h 238 158 (.ptr b 0)=some (.ptr b 0,h):=by
  have e:convA env h 238 158 (.ptr b 0)=fromUnsafe env b 0 160 h (asRow (h.at b)):=by kernel_rfl
  have e2:fromUnsafe env b 0 160 h (asRow (Ob.row t 2 0 160 true:Ob FT))=some (.ptr b 0,h):=by kernel_rfl
  rw[e,ha,e2]
theorem c87{k:KV}(ha:h.at b=.row t 2 0 160 true)(h0:tget t 0=.nilp∨tget t 0=.ptr b 0)
    (hk:∀h' t',h'.at b=.row t' 2 0 160 true→tget t' 0=.ptr b 0→tget t' 1=tget t 1→h'.next=h.next→(∀c,c≠b→h'.at c=h.at c)→k (.tuple []) h'):W1 (.func 87) [.ptr b 0] h k:=by
  refine w87 (n:=1) sw_ok (g87 ?_)
  unfold s87_0
  rw[exNil_p,oK_some,fAddr_0]
  refine ld1_i ha (by decide) ?_
  rcases h0 with h0|h0
  · rw[h0,eql57n,oV_some,asB_b]
    refine cnd_t rfl ?_
    rw[bconv1 ha,oK_some]
    refine c112 ?_
    rw[bconv2 ha,oK_some,exNil_p,oK_some,fAddr_0]
    refine st1_i ha (Nat.le_refl _) (by decide) rfl ?_
    refine hk _ _ (at_put_same _ _ _) ?_ ?_ rfl (fun c hc=>at_put_o hc)
    · rw[tget_tlist];simp
    · rw[tget_tlist];simp
  · rw[h0,eql57,oV_some,asB_b]
    refine cnd_f rfl ?_
    rw[exNil_p,oK_some,fAddr_0]
    refine ld1_i ha (by decide) ?_
    rw[h0,neq57,oV_some,asB_b]
    refine cnd_f rfl ?_
    exact hk h t ha h0 rfl rfl (fun _ _=>rfl)
end
theorem Bld.start{g:Bool}{h:H}{b:P}{l:List UInt8}{t:Tm}(ha:h.at b=.row t 2 0 160 true)(hb:Buf g h (tget t 1) l){h':H}{t':Tm}(h1:h'.next=h.next)(h2:∀c,c≠b→h'.at c=h.at c)(h3:tget t' 1=tget t 1):Buf g h' (tget t' 1) l:=by
  rw[h3]
  exact hb.mono ⟨by rw[h1];exact Nat.le_refl _,fun q t m z w e _=>h2 q fun e'=>by subst e';rw[ha] at e;cases e⟩
/-- what is appended is stored -/
theorem Bld.fin{g:Bool}{h:H}{b:P}{l:List UInt8}{t:Tm}{v:AV}{k:H→Prop}(ha:h.at b=.row t 2 0 160 true)(hn:b.nat<h.next.nat)(h0:tget t 0=.ptr b 0)(hb:Buf g h v l)(hk:∀h',Bld g h' b l→k h'):st1 (.ptr b 1) v h k:=by
  refine st1_i ha (Nat.zero_le _) (by decide) hb.one ?_
  refine hk _ ⟨_,at_put_same _ _ _,hn,.inr (by rw[tget_tlist];simp[h0]),?_⟩
  have:tget (tlist [v] 1 t) 1=v:=by rw[tget_tlist];simp
  rw[this]
  exact hb.mono (Keeps.put ha (by decide))
theorem c65{g:Bool}{h:H}{b:P}{l:List UInt8}{x:UInt8}{k:KV}(hb:Bld g h b l)(hl:l.length+1≤1099511627776)(hk:∀h',Bld false h' b (l++[x])→k .nili h'):W1 (.func 65) [.ptr b 0,.int .u8 (Int.ofNat x.toNat)] h k:=by
  obtain⟨t,ha,hn,h0,hbuf⟩:=hb
  refine w65 (n:=1) sw_ok (g65 ?_)
  unfold s65_0
  refine c87 ha h0 fun h1 t1 a1 p1 q1 n1 f1=>?_
  rw[exNil_p,oK_some,fAddr_1]
  refine ld1_i a1 (by decide) ?_
  rw[bld1,oK_some]
  have hbuf1:=(Bld.start ha hbuf n1 f1 q1).mono (Keeps.new (o:=.row (T1 (Int.ofNat x.toNat)) 1 0 TB true))
  have hx:cellsOfArg (h1.new (.row (T1 (Int.ofNat x.toNat)) 1 0 TB true)) 1 (.slice h1.next 0 1 1 true)=some ([x].length,ubs [x]):=by
    show(Option.rec none (fun cs=>some (1,cs)) ((h1.new (.row (T1 (Int.ofNat x.toNat)) 1 0 TB true)).read h1.next 0 1):Option (Nat×List AV))=_
    have hr:(h1.new (.row (T1 (Int.ofNat x.toNat)) 1 0 TB true)).read h1.next 0 1=some (ubs [x]):=by
      show Hp.readK _ _ _ _ _ _=_
      unfold Hp.readK
      rw[at_new_same]
      kernel_rfl
    rw[hr];rfl
  obtain⟨v',h3,e3,b3,n3,f3⟩:=app_b hbuf1 hx (by simp) hl
  rw[app37,e3,oK_some,exNil_p,oK_some,fAddr_1]
  have hn1:b.nat<h1.next.nat:=by rw[n1];exact hn
  have a2:(h1.new (.row (T1 (Int.ofNat x.toNat)) 1 0 TB true)).at b=.row t1 2 0 160 true:=by rw[at_new_o hn1];exact a1
  have hn2:b.nat<(h1.new (.row (T1 (Int.ofNat x.toNat)) 1 0 TB true)).next.nat:=by rw[next_new];omega
  exact Bld.fin (by rw[f3 b _ _ _ _ _ a2 (by decide) hn2];exact a2) (Nat.lt_of_lt_of_le hn2 n3) p1 b3 fun h' hb'=>hk h' hb'
theorem cells_str(h:H):∀(l:List UInt8),cellsOfArg h 1 (S l)=some (l.length,ubs l):=fun l=>by
  show(some (l.length,byteCells l.length (enc l)):Option (Nat×List AV))=_
  have:∀l:List UInt8,byteCells l.length (enc l)=ubs l:=by
    intro l
    induction l with
    |nil=>rfl
    |cons x l ih=>
      obtain⟨h1,h2⟩:=enc_split x l
      show(.int .u8 (.ofNat (Nat.mod (enc (x::l)) 256))::byteCells l.length (Nat.div (enc (x::l)) 256):List AV)=_
      rw[h1,h2,ih];rfl
  rw[this]
theorem c69{g:Bool}{h:H}{b:P}{l m:List UInt8}{k:KV}(hb:Bld g h b l)(hm:m≠[])(hl:l.length+m.length≤1099511627776)(hk:∀v h',Bld false h' b (l++m)→k v h'):W1 (.func 69) [.ptr b 0,S m] h k:=by
  obtain⟨t,ha,hn,h0,hbuf⟩:=hb
  refine w69 (n:=1) sw_ok (g69 ?_)
  unfold s69_0
  refine c87 ha h0 fun h1 t1 a1 p1 q1 n1 f1=>?_
  rw[exNil_p,oK_some,fAddr_1]
  refine ld1_i a1 (by decide) ?_
  have hbuf1:=Bld.start ha hbuf n1 f1 q1
  obtain⟨v',h3,e3,b3,n3,f3⟩:=app_b hbuf1 (cells_str h1 m) hm hl
  rw[app9,e3,oK_some,exNil_p,oK_some,fAddr_1]
  have hn1:b.nat<h1.next.nat:=by rw[n1];exact hn
  exact Bld.fin (by rw[f3 b _ _ _ _ _ a1 (by decide) hn1];exact a1) (Nat.lt_of_lt_of_le hn1 n3) p1 b3 fun h' hb'=>hk _ h' hb'
theorem us76(x y:AV)(h:H):builtinA env .unsafeString [204,3] [x,y] h=biString env x (natOf y) h:=by kernel_rfl
theorem sd37(x:AV)(h:H):builtinA env .unsafeSliceData [79] [x] h=biSliceData x h:=rfl
theorem isB:isByte env TB=true:=by kernel_rfl
theorem c66{g:Bool}{h:H}{b:P}{l:List UInt8}{k:KV}(hb:Bld g h b l)(hg:g=false∨l≠[])(hl:l.length≤9223372036854775807)(hk:∀h',k (S l) h'):W1 (.func 66) [.ptr b 0] h k:=by
  obtain⟨t,ha,hn,h0,hbuf⟩:=hb
  refine w66 (n:=1) sw_ok (g66 ?_)
  unfold s66_0
  rw[exNil_p,oK_some,fAddr_1]
  refine ld1_i ha (by decide) ?_
  rcases hbuf with⟨e,rfl⟩|⟨q,t1,m,z,w,e,h1,h2,h3,h4,h5,h6⟩
  · rw[e,sd37]
    rw[show(biSliceData AV.nils h:Option (AV×H))=some (.nilp,h) from rfl,oK_some,exNil_p,oK_some,fAddr_1]
    refine ld1_i ha (by decide) ?_
    rw[e]
    show oK (builtinA env .unsafeString [204,3] [.nilp,.int .i64 (Int.ofNat 0)] h) _
    rw[us76,show(biString env .nilp (natOf (.int .i64 (Int.ofNat 0))) h:Option (AV×H))=some (.str 0 0,h) from rfl,oK_some]
    exact hk h
  · have hne:l≠[]:=by
      rcases hg with rfl|hg
      · rcases h6 with h6|h6
        · cases h6
        · exact h6
      · exact hg
    have hpos:l.length=(l.length-1)+1:=by
      cases l with
      |nil=>exact absurd rfl hne
      |cons _ _=>simp
    have e1:(biSliceData (.slice q 0 l.length 1 false) h:Option (AV×H))=some (.ptr q 0,h):=by rw[hpos];rfl
    rw[e,sd37,e1,oK_some,exNil_p,oK_some,fAddr_1]
    refine ld1_i ha (by decide) ?_
    rw[e,lenV_sl,us76]
    have e2:biString env (.ptr q 0) (natOf (.int .i64 (Int.ofNat l.length))) h=(Bool.rec (usRow env q 0 l.length h (asRow (h.at q))) (some (.str 0 0,h)) (Nat.beq l.length 0):Option (AV×H)):=rfl
    have e3:Nat.beq l.length 0=false:=by rw[hpos];rfl
    rw[e2,e3,h2]
    show oK (Bool.rec none (strAns (h.put q (.row t1 m (Nat.add m 1) TB w)) (cellBytes (getCells t1 l.length 0))) (band (isByte env TB) (band (Nat.ble (Nat.add 0 l.length) m) (Nat.ble l.length (intMax .i64)))):Option (AV×H)) _
    rw[isB,Nat.ble_eq_true_of_le (show Nat.add 0 l.length≤m by show 0+l.length≤m;omega),Nat.ble_eq_true_of_le (show l.length≤intMax .i64 from hl),h5.get,cells_u8]
    show oK (some (strOf (l.map (·.toNat)),h.put q (.row t1 m (Nat.add m 1) TB w)):Option (AV×H)) _
    rw[str_u8,oK_some]
    exact hk _
end Go.Den
