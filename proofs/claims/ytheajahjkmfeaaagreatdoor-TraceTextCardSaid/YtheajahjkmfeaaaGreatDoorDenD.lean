/-
 Proof.
-/
import Derived.Test.YtheajahjkmfeaaaGreatDoorDenP
import Derived.Orders
import Derived.OrdersIn
noncomputable section
namespace Go.Den
open Go.RowKit
def CD{β:Type}(M:(β→Prop)→Prop):Prop:=∀K,M K→∃v,K v∧∀K',K' v→M K'
theorem CD.ret{β:Type}(x:β):CD (fun K=>K x):=fun _ h=>⟨x,h,fun _ h=>h⟩
theorem CD.bind{β γ:Type}{A:(β→Prop)→Prop}{B:β→(γ→Prop)→Prop}(ha:CD A)(hb:∀x,CD (B x)):CD (fun K=>A (fun x=>B x K)):=fun K h=>by
 obtain⟨x,hx,ka⟩:=ha _ h
 obtain⟨v,hv,kb⟩:=hb x _ hx
 exact⟨v,hv,fun K' h'=>ka _ (kb K' h')⟩
theorem CD.no{β:Type}{M:(β→Prop)→Prop}(h:∀K,¬M K):CD M:=fun K hK=>(h K hK).elim
theorem CD.of_eq{β:Type}{M N:(β→Prop)→Prop}(e:∀K,M K=N K)(h:CD M):CD N:=fun K hK=>by
 rw[←e] at hK
 obtain⟨v,hv,k⟩:=h K hK
 exact⟨v,hv,fun K' h'=>by rw[←e];exact k K' h'⟩
theorem CD.ite{β:Type}{c:Bool}{M:(β→Prop)→Prop}(h:CD M):CD (fun K=>(Bool.rec False (M K) c:Prop)):=by
 cases c
 · exact CD.no fun _ h=>h
 · exact h
theorem CD.Bm4{β:Type}{c:Bool}{M:(β→Prop)→Prop}(h:CD M):CD (fun K=>(Bool.rec As (M K) c:Prop)):=by
 cases c
 · exact CD.no fun _ h=>Ep h
 · exact h
theorem CD.Bfh{β:Type}{c:Bool}{M:(β→Prop)→Prop}(h:CD M):CD (fun K=>(Bool.rec (M K) False c:Prop)):=by
 cases c
 · exact h
 · exact CD.no fun _ h=>h
theorem Ta(n:Nat):CD (fN n):=CD.ret n
theorem Xy(n:Int):CD (fI n):=CD.of_eq (fun K=>(Gp n K).symm) (CD.ret n)
theorem Axc(k:IntKind)(v:AV):CD (asI k v):=fun K h=>by
 obtain⟨n,rfl,hn⟩:=Si h
 refine⟨n,hn,fun K' h'=>?_⟩
 show(Bool.rec As (K' n) (Aft k k):Prop)
 have:Aft k k=true:=by cases k<;>rfl
 rw[this];exact h'
theorem Ago(v:AV):CD (Asg v):=fun K h=>by obtain⟨k,n,rfl,hn⟩:=Vx h;exact⟨n,hn,fun _ h=>h⟩
theorem Bav(v:AV):CD (asB v):=fun K h=>by obtain⟨b,rfl,hn⟩:=Gx h;exact⟨b,hn,fun _ h=>h⟩
theorem Abi(v:AV):∀{γ:Type}{B:Nat→Nat→(γ→Prop)→Prop},(∀l c,CD (B l c))→CD (fun K=>asS v (fun l c=>B l c K)):=fun hb K h=>by
 obtain⟨l,c,rfl,hn⟩:=Lb h
 exact hb l c K hn
theorem All(v:AV):∀{γ:Type}{B:P→Nat→(γ→Prop)→Prop},(∀l c,CD (B l c))→CD (fun K=>asP v (fun l c=>B l c K)):=fun hb K h=>by
 obtain⟨l,c,rfl,hn⟩:=Mr h
 exact hb l c K hn
theorem Axd(v:AV):CD (asG v):=fun K h=>by obtain⟨b,rfl,hn⟩:=Vy h;exact⟨b,hn,fun _ h=>h⟩
theorem Bau(v:AV):CD (asT v):=fun K h=>by obtain⟨b,rfl,hn⟩:=Aqy h;exact⟨b,hn,fun _ h=>h⟩
theorem Ajg{α:Type}(o:Option α):CD (oV o):=fun K h=>by obtain⟨v,rfl,hn⟩:=Ol h;exact⟨v,hn,fun _ h=>h⟩
theorem Vu(n:Int):CD (Ce n):=fun K h=>by obtain⟨m,rfl,hn⟩:=Ng h;exact⟨m,hn,fun _ h=>h⟩
theorem Agm(v:AV):CD (Akn v):=(Ago v).bind fun n=>Vu n
theorem A16(v:AV):CD (Cz v):=fun K h=>by
 cases v<;>first|exact(Ep h).elim|exact⟨_,h,fun _ h=>h⟩
theorem Axb(sz i:Nat)(v:AV):CD (Cc sz i v):=fun K h=>by
 cases v<;>try exact(Ep h).elim
 rename_i b o n z t
 exact CD.Bm4 (c:=An (Nat.ble (Nat.add i 1) n) (Nat.beq sz z)) (M:=fun K=>fN (Nat.add o (Nat.mul i sz)) (fun q=>K (AV.ptr b q))) ((Ta _).bind fun q=>CD.ret _) K h
theorem Agn(a b:Int){γ:Type}{B:Nat→Nat→(γ→Prop)→Prop}(hb:∀x y,CD (B x y)):CD (fun K=>Bec a b (fun x y=>B x y K)):=
 (Vu a).bind fun x=>(Vu b).bind fun y=>hb x y
section
variable{E:Env}
theorem A3w(op:BinOp)(k:IntKind)(a b:Int):CD (bI op k a b):=by
 cases op
 case add=>exact(Xy _).bind fun n=>CD.ret _
 case sub=>exact(Xy _).bind fun n=>CD.ret _
 case mul=>exact(Xy _).bind fun n=>CD.ret _
 case quo=>exact CD.Bfh (M:=fun K=>fI _ (fun n=>K (AV.int k n))) ((Xy _).bind fun n=>CD.ret _)
 case rem=>exact CD.Bfh (M:=fun K=>fI _ (fun n=>K (AV.int k n))) ((Xy _).bind fun n=>CD.ret _)
 case shl=>exact(Vu b).bind (B:=fun b K=>fI _ (fun n=>K (AV.int k n))) fun m=>(Xy _).bind fun n=>CD.ret _
 case shr=>exact(Vu b).bind (B:=fun b K=>fI _ (fun n=>K (AV.int k n))) fun m=>(Xy _).bind fun n=>CD.ret _
 case and=>exact Agn a b (B:=fun x y K=>(Bool.rec False (fN (Nat.land x y) (fun n=>K (AV.int k (.ofNat n)))) (An (Nat.ble x (intMax k)) (Nat.ble y (intMax k))):Prop)) fun x y=>CD.ite ((Ta _).bind fun n=>CD.ret _)
 case or=>exact Agn a b (B:=fun x y K=>(Bool.rec False (fN (Nat.lor x y) (fun n=>K (AV.int k (.ofNat n)))) (An (Nat.ble x (intMax k)) (Nat.ble y (intMax k))):Prop)) fun x y=>CD.ite ((Ta _).bind fun n=>CD.ret _)
 case xor=>exact Agn a b (B:=fun x y K=>(Bool.rec False (fN (Nat.xor x y) (fun n=>K (AV.int k (.ofNat n)))) (An (Nat.ble x (intMax k)) (Nat.ble y (intMax k))):Prop)) fun x y=>CD.ite ((Ta _).bind fun n=>CD.ret _)
 case andNot=>exact CD.no fun _ h=>h
 all_goals exact CD.ret _
theorem Bjc(op:BinOp)(l c m d:Nat):CD (bS op l c m d):=by
 cases op
 case add=>exact CD.ite (M:=fun K=>fN _ (fun n=>fN _ (fun e=>K (AV.str n e)))) ((Ta _).bind fun n=>(Ta _).bind fun e=>CD.ret _)
 all_goals first|exact CD.ret _|exact CD.no fun _ h=>h
theorem A18(op:BinOp)(t:TypeId)(x y:AV):CD (Ax2 E op t x y):=by
 unfold Ax2
 split
 · unfold Bbb
   split
   · refine(Axc _ _).bind fun a=>?_
     unfold Bbg
     split
     · exact(Ago _).bind fun b=>A3w _ _ _ _
     · exact(Axc _ _).bind fun b=>A3w _ _ _ _
   · exact Abi x fun l c=>Abi y fun m d=>Bjc _ _ _ _ _
   · exact Ajg _
 · exact CD.no fun _ h=>h
theorem A17(op:BinOp)(t:TypeId)(ox oy:Operand)(x y:AV):CD (Asb E op t ox oy x y):=by
 unfold Asb
 cases Alu E op t ox oy with
 |false=>exact A18 op t x y
 |true=>exact Ajg _
theorem Bas(op:UnOp)(x:AV):CD (un2 op x):=by
 unfold un2
 split
 · exact(Bav x).bind fun b=>CD.ret _
 · exact Ajg _
theorem Ar5(t:TypeId)(x:AV)(i:Nat):CD (Aa7 E t x i):=by
 unfold Aa7
 split
 · split
   · exact(Axd x).bind fun cs=>CD.ret _
   · exact(Axd x).bind fun cs=>Ajg _
 · exact CD.no fun _ h=>h
theorem Alk(t:TypeId)(x:AV)(i:Nat):CD (Vf E t x i):=by
 unfold Vf
 split
 · exact All x fun b q=>(Ta _).bind fun q=>CD.ret _
 · exact CD.no fun _ h=>h
theorem Bat(i:Nat)(x:AV):CD (ext i x):=(Bau x).bind fun _cs=>Ajg _
theorem Axa(t:TypeId)(a:AV)(h:H):CD (Adc E t a h):=by
 have key:∀(b:P)(o n:Nat),CD (β:=List AV) (fun K=>h.Ix b o n As K):=fun b o n K hh=>by
  unfold Hp.Ix at hh ⊢
  cases hr:Em (h.at b) with
  |no=>rw[hr] at hh;exact(Ep hh).elim
  |row t m z e w=>
   rw[hr] at hh
   obtain⟨hc,hh⟩:=Fq (show(Bool.rec As (K (Dy t n o)) (Nat.ble (Nat.add o n) m):Prop) from hh)
   refine⟨_,hh,fun K' h'=>?_⟩
   show(Bool.rec As (K' (Dy t n o)) (Nat.ble (Nat.add o n) m):Prop)
   rw[hc];exact h'
  |ext c m=>
   rw[hr] at hh
   obtain⟨hc,hh⟩:=Fq (show(Bool.rec As (K (Da c n o)) (Nat.ble (Nat.add o n) m):Prop) from hh)
   refine⟨_,hh,fun K' h'=>?_⟩
   show(Bool.rec As (K' (Da c n o)) (Nat.ble (Nat.add o n) m):Prop)
   rw[hc];exact h'
 have key1:∀(b:P)(o:Nat),CD (β:=AV) (fun K=>h.Ih b o As K):=fun b o K hh=>by
  unfold Hp.Ih at hh ⊢
  cases hr:Em (h.at b) with
  |no=>rw[hr] at hh;exact(Ep hh).elim
  |row t m z e w=>
   rw[hr] at hh
   obtain⟨hc,hh⟩:=Fq (show(Bool.rec As (Cj (Aw t o) K) (Nat.ble (Nat.add o 1) m):Prop) from hh)
   rw[Ch] at hh
   refine⟨_,hh,fun K' h'=>?_⟩
   show(Bool.rec As (Cj (Aw t o) K') (Nat.ble (Nat.add o 1) m):Prop)
   rw[hc,Ch];exact h'
  |ext c m=>
   rw[hr] at hh
   obtain⟨hc,hh⟩:=Fq (show(Bool.rec As (Cj (c o) K) (Nat.ble (Nat.add o 1) m):Prop) from hh)
   rw[Ch] at hh
   refine⟨_,hh,fun K' h'=>?_⟩
   show(Bool.rec As (Cj (c o) K') (Nat.ble (Nat.add o 1) m):Prop)
   rw[hc,Ch];exact h'
 unfold Adc
 split
 · split
   · exact All a (B:=fun b o K=>h.Ix b o _ As (fun l=>K (AV.agg l))) fun b o=>(key b o _).bind fun l=>CD.ret (AV.agg l)
   · exact All a fun b o=>key1 b o
 · exact CD.no fun _ h=>h
def Asl(E:Env)(call:CF)(o:Op)(f:FT)(h:H)(k:KV):Prop:=∃v,k v h∧(∀k':KV,k' v h→Ea E o call f h k')∧(kindOf E o=0→∀(h':H)(k':KV),k' v h'→Ea E o call f h' k')
variable{call:CF}{f:FT}{h:H}{k:KV}
theorem Ew{o:Op}{M:(AV→Prop)→Prop}(hm:CD M)(e:∀(h:H)(k:KV),Ea E o call f h k=M (fun v=>k v h))(hg:Ea E o call f h k):Asl E call o f h k:=by
 rw[e] at hg
 obtain⟨v,hv,hk⟩:=hm _ hg
 exact⟨v,hv,fun k' h'=>by rw[e];exact hk _ h',fun _ h' k' hk'=>by rw[e];exact hk _ hk'⟩
theorem Awt{o:Op}{M:(AV→Prop)→Prop}(hm:CD M)(hk1:kindOf E o≠0)(e:∀(k:KV),Ea E o call f h k=M (fun v=>k v h))(hg:Ea E o call f h k):Asl E call o f h k:=by
 rw[e] at hg
 obtain⟨v,hv,hk⟩:=hm _ hg
 exact⟨v,hv,fun k' h'=>by rw[e];exact hk _ h',fun h0=>(hk1 h0).elim⟩
theorem A0m{o:Option (AV×H)}(hs:∀v h',o=some (v,h')→h'=h)(hg:oK o k):∃v,o=some (v,h)∧k v h:=by
 obtain⟨v,h',e,hk⟩:=Auo hg
 have:=hs v h' e
 subst this
 exact⟨v,e,hk⟩
theorem Pj{o:Op}{A:H→Option (AV×H)}(e:∀(h:H)(k:KV),Ea E o call f h k=oK (A h) k)(hs:∀h v h',A h=some (v,h')→h'=h)(hp:kindOf E o=0→∀h h' v,A h=some (v,h)→A h'=some (v,h'))(hg:Ea E o call f h k):Asl E call o f h k:=by
 rw[e] at hg
 obtain⟨v,hv,hk⟩:=A0m (hs h) hg
 refine⟨v,hk,fun k' h'=>?_,fun h0 h' k' hk'=>?_⟩
 · rw[e,hv,Ad];exact h'
 · rw[e,hp h0 h h' v hv,Ad];exact hk'
end
end Go.Den
namespace Go.Den
open Go.RowKit
section
variable{E:Env}{h:H}
theorem Oa{o:Option AV}{v:AV}{h':H}(e:Fm h o=some (v,h')):h'=h:=(Io e).2
theorem Acm{o:Option AV}{v:AV}{h':H}(h2:H)(e:Fm h o=some (v,h')):Fm h2 o=some (v,h2):=by
 have:=(Io e).1
 rw[this];rfl
theorem Aa9{x v:AV}{h':H}(e:Ag x h=some (v,h')):h'=h∧∀h2:H,Ag x h2=some (v,h2):=by
 cases x<;>simp only[Ag] at e<;>cases e
 exact⟨rfl,fun _=>rfl⟩
theorem Xz{n:Nat}{t:Option Tm}{v:AV}{h':H}(e:Abv n h t=some (v,h')):h'=h∧∀h2:H,Abv n h2 t=some (v,h2):=by
 cases t with
 |none=>cases e
 |some t=>cases e;exact⟨rfl,fun _=>rfl⟩
theorem Vk{i:Option TI}{ps:List (Nat×AV)}{v:AV}{h':H}(e:Ax E i ps h=some (v,h')):h'=h∧∀h2:H,Ax E i ps h2=some (v,h2):=by
 cases i with
 |none=>cases e
 |some i=>
  have e:Re E i.desc i ps h=some (v,h'):=e
  show _∧∀h2,Re E i.desc i ps h2=_
  cases hd:i.desc<;>rw[hd] at e<;>simp only[Re] at e ⊢<;>try cases e
  · obtain⟨ei,hei,e2⟩:=Af e
    obtain⟨h1,h2⟩:=Xz e2
    refine⟨h1,fun z=>?_⟩
    rw[hei];exact h2 z
  · exact Xz e
theorem Aga{t:TypeId}{b:P}{o n z i:Nat}{v:AV}{h':H}(e:Rz E t b o n z i h=some (v,h')):h'=h∧∀h2:H,Rz E t b o n z i h2=some (v,h2):=by
 obtain⟨a,ha,e2⟩:=Af e
 obtain⟨ti,hti,e3⟩:=Af e2
 obtain⟨hc,e4⟩:=Av e3
 cases e4
 refine⟨rfl,fun h2=>?_⟩
 unfold Rz Ap
 rw[ha]
 show(Option.rec none (fun ti=>_) (E.ty a):Option (AV×H))=_
 rw[hti]
 show(Bool.rec none _ _:Option (AV×H))=_
 rw[hc]
theorem Ace{t:TypeId}{b:P}{o i:Nat}{v:AV}{h':H}(e:Vi E t b o i h=some (v,h')):h'=h∧∀h2:H,Vi E t b o i h2=some (v,h2):=by
 obtain⟨a,ha,e2⟩:=Af e
 obtain⟨hc,e3⟩:=Av e2
 obtain⟨ei,hei,e4⟩:=Af e3
 cases e4
 refine⟨rfl,fun h2=>?_⟩
 unfold Vi
 rw[ha]
 show(Bool.rec none (Option.rec none _ (E.ty a.2)) _:Option (AV×H))=_
 rw[hc,hei]
theorem Nm{t:TypeId}{x:AV}{i:Option Nat}{v:AV}{h':H}(e:Gf E t x i h=some (v,h')):h'=h∧∀h2:H,Gf E t x i h2=some (v,h2):=by
 cases i with
 |none=>cases e
 |some i=>
  cases x<;>try cases e
  · exact Ace e
  · exact Aga e
theorem Acf{t:TypeId}{cs:List AV}{i:Nat}{v:AV}{h':H}(e:Vj E t cs i h=some (v,h')):h'=h∧∀h2:H,Vj E t cs i h2=some (v,h2):=by
 obtain⟨a,ha,e2⟩:=Af e
 obtain⟨hc,e3⟩:=Av e2
 obtain⟨ei,hei,e4⟩:=Af e3
 refine⟨Oa e4,fun h2=>?_⟩
 unfold Vj
 rw[ha]
 show(Bool.rec none (Option.rec none _ (E.ty a.2)) _:Option (AV×H))=_
 rw[hc,hei]
 exact Acm h2 e4
theorem Vh{t:TypeId}{x:AV}{i:Option Nat}{v:AV}{h':H}(e:Mo E t x i h=some (v,h')):h'=h∧∀h2:H,Mo E t x i h2=some (v,h2):=by
 cases i with
 |none=>cases e
 |some i=>
  cases x<;>try cases e
  · obtain⟨ti,hti,e2⟩:=Af e
    obtain⟨h1,e3⟩:=Av e2
    obtain⟨h2,e4⟩:=Av e3
    cases e4
    refine⟨rfl,fun z=>?_⟩
    rename_i l c
    show(Option.rec none (fun ti=>Bool.rec none (Bool.rec none (some (.int .u8 (.ofNat (Fw c i)),z)) (Nat.ble (Nat.add i 1) l)) (isStr ti.desc)) (E.ty t):Option (AV×H))=_
    rw[hti]
    show(Bool.rec none (Bool.rec none (some (.int .u8 (.ofNat (Fw c i)),z)) (Nat.ble (Nat.add i 1) l)) (isStr ti.desc):Option (AV×H))=_
    rw[h1,h2]
  · exact Acf e
theorem Xq{t:TypeId}{x:AV}{lo hi mx:Option (Option Nat)}{v:AV}{h':H}(e:slice3 E h t x lo hi mx=some (v,h')):h'=h∧(Ey E Hq t=true→∀h2:H,slice3 E h2 t x lo hi mx=some (v,h2)):=by
 obtain⟨m,hm,e2⟩:=Af e
 refine⟨Oa e2,fun hd h2=>?_⟩
 have hs:Kk E h t x lo hi m=Kk E h2 t x lo hi m:=by
  unfold Ey at hd
  unfold Kk
  cases hti:E.ty t with
  |none=>rfl
  |some ti=>
   rw[hti] at hd
   have hd:Hq ti.desc=true:=hd
   show Zr E h ti.desc x lo hi m=Zr E h2 ti.desc x lo hi m
   cases hdd:ti.desc<;>rw[hdd] at hd<;>first|rfl|cases hd
 unfold slice3
 rw[hm]
 show Fm h2 (Kk E h2 t x lo hi m)=_
 rw[←hs]
 exact Acm h2 e2
theorem Alg{s d:TypeId}{x v:AV}{h':H}(hd:Ey E Qz d=false)(e:Ia E h s d x=some (v,h')):h'=h:=by
 unfold Ia at e
 obtain⟨i,hi,e⟩:=Af e
 have hn:Qz i.desc=false:=by unfold Ey at hd;rw[hi] at hd;exact hd
 cases hdd:i.desc<;>rw[hdd] at e hn<;>simp only[Aql] at e<;>try cases e
 · cases x<;>simp only[Agj] at e<;>cases e;rfl
 · cases x<;>simp only[Zf] at e<;>try cases e
   · rfl
   · rfl
   · unfold Aqk at e
     obtain⟨ti,_,e⟩:=Af e
     cases hq:ti.desc<;>rw[hq] at e<;>simp only at e<;>try cases e
     obtain⟨_,e⟩:=Av e
     cases e;rfl
   · unfold Sc at e
     obtain⟨ti,_,e⟩:=Af e
     cases hq:ti.desc<;>rw[hq] at e<;>simp only at e<;>try cases e
     obtain⟨_,e⟩:=Av e
     obtain⟨cs,_,e⟩:=Af e
     obtain⟨l,_,e⟩:=Af e
     cases e;rfl
 · cases x<;>simp only at e<;>try cases e
   · unfold Bde at e
     obtain⟨ti,_,e⟩:=Af e
     cases hq:ti.desc<;>rw[hq] at e<;>simp only at e<;>cases e
     rfl
   · unfold Lm at e
     cases hr:Em (h.at ‹P›)<;>rw[hr] at e<;>try cases e
     obtain⟨ti,_,e⟩:=Af e
     cases hq:ti.desc<;>rw[hq] at e<;>simp only at e<;>try cases e
     obtain⟨ei,_,e⟩:=Af e
     obtain⟨_,e⟩:=Av e
     cases e;rfl
 · cases x<;>simp only at e<;>try cases e
   · unfold As2 at e
     obtain⟨ti,_,e⟩:=Af e
     cases hq:ti.desc<;>rw[hq] at e<;>simp only at e<;>cases e
     rfl
   · unfold As2 at e
     obtain⟨ti,_,e⟩:=Af e
     cases hq:ti.desc<;>rw[hq] at e<;>simp only at e<;>try cases e
     unfold Pc at e
     cases hr:Em (h.at ‹P›)<;>rw[hr] at e<;>try cases e
     obtain⟨ui,_,e⟩:=Af e
     obtain⟨_,e⟩:=Av e
     cases e;rfl
 · cases hn
theorem Acd{t:TypeId}{m k v:AV}{ok:Bool}{h':H}(e:Db E t m k ok h=some (v,h')):h'=h:=by
 unfold Db Rs at e
 obtain⟨ti,_,e⟩:=Af e
 cases hq:ti.desc<;>rw[hq] at e<;>simp only at e<;>try cases e
 obtain⟨p,_,e⟩:=Af e
 unfold Fv at e
 obtain⟨r,_,e⟩:=Af e
 cases r with
 |none=>
  obtain⟨ei,_,e⟩:=Af e
  obtain⟨z,_,e⟩:=Af e
  cases e;rfl
 |some p=>cases e;rfl
theorem Als{ats:List TypeId}{x v:AV}{h':H}(e:Qc E ats x h=some (v,h')):h'=h:=by
 unfold Qc at e
 obtain⟨t,_,e⟩:=Af e
 obtain⟨ti,_,e⟩:=Af e
 cases hq:ti.desc<;>rw[hq] at e<;>simp only[Au4] at e<;>try cases e
 · cases x<;>simp only at e<;>cases e;rfl
 · obtain⟨p,_,e⟩:=Af e;cases e;rfl
 · cases x<;>simp only at e<;>cases e<;>rfl
 · rfl
 · cases x<;>simp only at e<;>try cases e
   · rfl
   · obtain⟨p,_,e⟩:=Af e;cases e;rfl
theorem Ux{b:Builtin}{ats:List TypeId}{args:List AV}{v:AV}{h':H}(hb:b=.cap∨b=.unsafeSliceData∨b=.min∨b=.max)(e:Ar E b ats args h=some (v,h')):h'=h:=by
 unfold Ar at e
 split at e
 · rename_i x
   rcases hb with rfl|rfl|rfl|rfl<;>simp only[bi1] at e<;>try cases e
   · obtain⟨_,e2⟩:=Av (show(Bool.rec none (A19 x h) (A8f E (Ej ats 0)):Option (AV×H))=some (v,h') from e)
     clear e
     cases x<;>simp only[A19] at e2<;>try cases e2
     · rfl
     · rename_i t;cases t<;>simp only at e2<;>cases e2;rfl
   · cases x<;>simp only[Hi] at e<;>try cases e
     · rfl
     · split at e<;>cases e;rfl
 · rename_i x y
   rcases hb with rfl|rfl|rfl|rfl<;>simp only[bi2] at e<;>try cases e
   · exact Oa e
   · exact Oa e
 · cases e
variable{call:CF}{f:FT}{k:KV}
theorem Bi6{o:Op}(hk:kindOf E o=0∨kindOf E o=1)(hg:Ea E o call f h k):Asl E call o f h k:=by
 cases o<;>try (rcases hk with hk|hk<;>cases hk<;>done)
 case move x=>exact Ew (M:=fun K=>K (eval' E x f)) (CD.ret _) (fun _ _=>rfl) hg
 case assign x=>exact Ew (M:=fun K=>K (eval' E x f)) (CD.ret _) (fun _ _=>rfl) hg
 case binOp op t x y q=>exact Ew (A17 op t x y (eval' E x f) (eval' E y f)) (fun _ _=>rfl) hg
 case unOp op t x=>exact Ew (Bas op (eval' E x f)) (fun _ _=>rfl) hg
 case fieldAddr t x i=>exact Ew (Alk t (eval' E x f) i) (fun _ _=>rfl) hg
 case field t x i=>exact Ew (Ar5 t (eval' E x f) i) (fun _ _=>rfl) hg
 case extract x i=>exact Ew (Bat i (eval' E x f)) (fun _ _=>rfl) hg
 case makeFunc fn a b=>exact Ew (M:=fun K=>K (.func fn (Hv E f a.toList) (Hv E f b.toList))) (CD.ret _) (fun _ _=>rfl) hg
 case makeInterface t x=>
  refine Ew (M:=fun K=>match E.ty t with
   |some ti=>match isIface ti.desc with
    |true=>False
    |false=>K (.iface t (eval' E x f))
   |none=>False) ?_ (fun _ _=>rfl) hg
  split
  · split
    · exact CD.no fun _ h=>h
    · exact CD.ret _
  · exact CD.no fun _ h=>h
 case pick c a b=>
  refine Ew (M:=fun K=>(Abz.rec False (fun t=>Bool.rec (Cj (eval (CP E) b f) K) (Cj (eval (CP E) a f) K) t) (Sj (eval (CP E) c f)):Prop)) ?_ (fun _ _=>rfl) hg
  cases Sj (eval (CP E) c f) with
  |no=>exact CD.no fun _ h=>h
  |is t=>cases t<;>exact CD.of_eq (fun K=>(Ch _ K).symm) (CD.ret _)
 case nilCheck x=>exact Pj (A:=fun h=>Ag (eval' E x f) h) (fun _ _=>rfl) (fun _ _ _ e=>(Aa9 e).1) (fun _ _ h2 _ e=>(Aa9 e).2 h2) hg
 case build t ps=>exact Pj (A:=fun h=>Ax E (E.ty t) (Is (CP E) f ps.toList) h) (fun _ _=>rfl) (fun _ _ _ e=>(Vk e).1) (fun _ _ h2 _ e=>(Vk e).2 h2) hg
 case index t x i=>
  have hg:Ra E t (eval' E x f) (eval' E i f) h k:=hg
  have e2:∀(h:H)(k:KV),Ea E (.index t x i) call f h k=Ra E t (eval' E x f) (eval' E i f) h k:=fun _ _=>rfl
  cases hti:E.ty t with
  |none=>unfold Ra at hg;rw[hti] at hg;exact hg.elim
  |some ti=>
   cases hs:isStr ti.desc with
   |true=>
    refine Ew (M:=fun K=>asS (eval' E x f) (fun l c=>Akn (eval' E i f) (fun n=>Ij l c n (fun b=>K (AV.int .u8 (.ofNat b)))))) ?_ (fun h k=>?_) hg
    · exact Abi _ fun l c=>(Agm _).bind fun n=>CD.ite ((Ta _).bind fun b=>CD.ret _)
    · rw[e2];unfold Ra;rw[hti];simp only[hs]
   |false=>
    refine Pj (A:=fun h=>Mo E t (eval' E x f) (Bp (eval' E i f)) h) (fun h k=>?_) (fun _ _ _ e=>(Vh e).1) (fun _ _ h2 _ e=>(Vh e).2 h2) hg
    rw[e2];unfold Ra;rw[hti];simp only[hs]
 case indexAddr t x i=>
  have hg:Ml E t (eval' E x f) (eval' E i f) h k:=hg
  have e2:∀(h:H)(k:KV),Ea E (.indexAddr t x i) call f h k=Ml E t (eval' E x f) (eval' E i f) h k:=fun _ _=>rfl
  cases he:Sb E t with
  |some e=>
   cases hei:E.ty e with
   |none=>unfold Ml at hg;rw[he] at hg;simp only[hei] at hg
   |some ei=>
    refine Ew (M:=fun K=>Akn (eval' E i f) (fun n=>Cc ei.size n (eval' E x f) K)) ((Agm _).bind fun n=>Axb _ _ _) (fun h k=>?_) hg
    rw[e2];unfold Ml;rw[he];simp only[hei]
  |none=>
   refine Pj (A:=fun h=>Gf E t (eval' E x f) (Bp (eval' E i f)) h) (fun h k=>?_) (fun _ _ _ e=>(Nm e).1) (fun _ _ h2 _ e=>(Nm e).2 h2) hg
   rw[e2];unfold Ml;rw[he]
 case slice t x lo hi mx=>
  have hg:Mt E t (eval' E x f) (lo.map (fun x=>eval' E x f)) (hi.map (fun x=>eval' E x f)) (mx.map (fun x=>eval' E x f)) h k:=hg
  have e2:∀(h:H)(k:KV),Ea E (.slice t x lo hi mx) call f h k=Mt E t (eval' E x f) (lo.map (fun x=>eval' E x f)) (hi.map (fun x=>eval' E x f)) (mx.map (fun x=>eval' E x f)) h k:=fun _ _=>rfl
  cases hti:E.ty t with
  |none=>unfold Mt at hg;rw[hti] at hg;exact hg.elim
  |some ti=>
   cases hs:isStr ti.desc with
   |true=>
    cases hm:mx.map (fun x=>eval' E x f) with
    |some q=>unfold Mt at hg;rw[hti] at hg;simp only[hs,hm] at hg
    |none=>
     have cb:∀(o:Option AV)(d:Nat),CD (Ar8 o d):=fun o d=>by
      cases o with
      |none=>exact CD.ret d
      |some v=>exact Agm v
     refine Ew (M:=fun K=>asS (eval' E x f) (fun l c=>Ar8 (hi.map (fun x=>eval' E x f)) l (fun hi=>Ar8 (lo.map (fun x=>eval' E x f)) 0 (fun lo=>No l c lo hi (fun n d=>K (AV.str n d)))))) ?_ (fun h k=>?_) hg
     · exact Abi _ fun l c=>(cb _ _).bind fun a=>(cb _ _).bind fun b=>CD.ite ((Ta _).bind fun n=>(Ta _).bind fun d=>CD.ret _)
     · rw[e2];unfold Mt;rw[hti];simp only[hs,hm]
   |false=>
    have e3:∀(h:H)(k:KV),Ea E (.slice t x lo hi mx) call f h k=oK (slice3 E h t (eval' E x f) ((lo.map (fun x=>eval' E x f)).map Bp) ((hi.map (fun x=>eval' E x f)).map Bp) ((mx.map (fun x=>eval' E x f)).map Bp)) k:=fun h k=>by
     rw[e2];unfold Mt;rw[hti];simp only[hs]
    refine Pj (A:=fun h=>slice3 E h t (eval' E x f) ((lo.map (fun x=>eval' E x f)).map Bp) ((hi.map (fun x=>eval' E x f)).map Bp) ((mx.map (fun x=>eval' E x f)).map Bp)) e3 (fun _ _ _ e=>(Xq e).1) (fun h0 _ h2 _ e=>(Xq e).2 ?_ h2) hg
    have h0:(Bool.rec 1 0 (Ey E Hq t):Nat)=0:=h0
    cases hd:Ey E Hq t with
    |true=>rfl
    |false=>rw[hd] at h0;cases h0
 case convert s d x=>
  have hg:Vq E s d (eval' E x f) h k:=hg
  have e2:∀(h:H)(k:KV),Ea E (.convert s d x) call f h k=Vq E s d (eval' E x f) h k:=fun _ _=>rfl
  cases hti:E.ty d with
  |none=>unfold Vq at hg;rw[hti] at hg;exact hg.elim
  |some ti=>
   have gen:(∀(h:H)(k:KV),Ea E (.convert s d x) call f h k=oK (Ia E h s d (eval' E x f)) k)→An (Ex E s) (Ex E d)=false→Asl E call (.convert s d x) f h k:=fun e3 hb=>by
    have hk':kindOf E (.convert s d x)=(Bool.rec 1 2 (Ey E Qz d):Nat):=by
     show(Bool.rec (Bool.rec 1 2 (Ey E Qz d)) 0 (An (Ex E s) (Ex E d)):Nat)=_
     rw[hb]
    have hsl:Ey E Qz d=false:=by
     cases hd:Ey E Qz d with
     |false=>rfl
     |true=>rw[hk',hd] at hk;rcases hk with hk|hk<;>cases hk
    refine Pj (A:=fun h=>Ia E h s d (eval' E x f)) e3 (fun _ _ _ e=>Alg hsl e) (fun h0=>?_) hg
    rw[hk',hsl] at h0;cases h0
   cases hd:ti.desc with
   |int kd=>
    cases hs:Ex E s with
    |true=>
     refine Ew (M:=fun K=>Asg (eval' E x f) (fun n=>fI (wrap kd n) (fun n=>K (AV.int kd n)))) ((Ago _).bind fun n=>(Xy _).bind fun n=>CD.ret _) (fun h k=>?_) hg
     rw[e2];unfold Vq;rw[hti];simp only[hd,Abc,hs]
    |false=>
     refine gen (fun h k=>?_) (by rw[hs];rfl)
     rw[e2];unfold Vq;rw[hti];simp only[hd,Abc,hs]
   |_=>
    refine gen (fun h k=>?_) ?_
    · rw[e2];unfold Vq;rw[hti];simp only[hd,Abc]
    · rw[show Ex E d=false from by unfold Ex;rw[hti];simp only[hd,Ow]]
      cases Ex E s<;>rfl
 case load t a=>exact Awt (Axa t (eval' E a f) h) (fun h0=>nomatch (show(1:Nat)=0 from h0)) (fun _=>rfl) hg
 case lookup t m i b=>exact Pj (A:=fun h=>Db E t (eval' E m f) (eval' E i f) b h) (fun _ _=>rfl) (fun _ _ _ e=>Acd e) (fun h0=>nomatch (show(1:Nat)=0 from h0)) hg
 case call c=>
  obtain⟨callee,args,ats⟩:=c
  cases callee with
  |value v=>rcases hk with hk|hk<;>cases hk
  |invoke r m=>rcases hk with hk|hk<;>cases hk
  |builtin b=>
   have e2:∀(h:H)(k:KV),Ea E (.call ⟨.builtin b,args,ats⟩) call f h k=Kg E b ats.toList (Hv E f args.toList) h k:=fun _ _=>rfl
   have look:(b=.cap∨b=.unsafeSliceData∨b=.min∨b=.max)→Asl E call (.call ⟨.builtin b,args,ats⟩) f h k:=fun hb=>by
    refine Pj (A:=fun h=>Ar E b ats.toList (Hv E f args.toList) h) (fun h k=>?_) (fun _ _ _ e=>Ux hb e) (fun h0=>?_) hg
    · rcases hb with rfl|rfl|rfl|rfl<;>rfl
    · rcases hb with rfl|rfl|rfl|rfl<;>cases h0
   cases b<;>first|(rcases hk with hk|hk<;>cases hk<;>done)|exact look (.inl rfl)|exact look (.inr (.inl rfl))|exact look (.inr (.inr (.inl rfl)))|exact look (.inr (.inr (.inr rfl)))|skip
   have hg:Kg E .len ats.toList (Hv E f args.toList) h k:=hg
   have hg':=hg
   unfold Kg at hg'
   simp only at hg'
   split at hg'
   · rename_i x hx
     have e3:∀(h:H)(k:KV),Ea E (.call ⟨.builtin .len,args,ats⟩) call f h k=Arq E ats.toList x h k:=fun h k=>by
      rw[e2];unfold Kg;rw[hx]
     unfold Arq at hg'
     split at hg'
     · rename_i t ht
       split at hg'
       · rename_i ti hti
         have e4:∀(h:H)(k:KV),Ea E (.call ⟨.builtin .len,args,ats⟩) call f h k=Ail E ats.toList ti.desc x h k:=fun h k=>by
          rw[e3];unfold Arq;rw[ht];simp only[hti]
         have hkk:∀t' r,ats.toList=t'::r→kindOf E (.call ⟨.builtin .len,args,ats⟩)=(Bool.rec 1 0 (Ey E Hq t'):Nat):=fun t' r e=>by
          show(match ats.toList with
           |t::_=>(Bool.rec 1 0 (Ey E Hq t):Nat)
           |[]=>1)=_
          rw[e]
         unfold Ail at hg'
         split at hg'
         · rename_i hd
           refine Ew (M:=fun K=>asS x (fun l _=>K (AV.int .i64 (.ofNat l)))) (Abi _ fun l c=>CD.ret _) (fun h k=>?_) hg
           rw[e4,hd];rfl
         · rename_i hd
           refine Ew (M:=fun K=>Cz x (fun n=>K (AV.int .i64 (.ofNat n)))) ((A16 _).bind fun n=>CD.ret _) (fun h k=>?_) hg
           rw[e4,hd];rfl
         · rename_i hn1 hn2
           refine Pj (A:=fun h=>Qc E ats.toList x h) (fun h k=>?_) (fun _ _ _ e=>Als e) (fun h0=>?_) hg
           · rw[e4];unfold Ail
             split
             · rename_i hd;exact absurd hd hn1
             · rename_i e' hd;exact absurd hd (hn2 e')
             · rfl
           · cases hats:ats.toList with
             |nil=>rw[hats] at ht;cases ht
             |cons t' r=>
              rw[hats] at ht
              have:t'=t:=Option.some.inj (show some t'=some t from ht)
              subst this
              rw[hkk t' r hats] at h0
              have hsf:Ey E Hq t'=false:=by
               unfold Ey;rw[hti]
               show Hq ti.desc=false
               cases hdd:ti.desc<;>first|rfl|(exact absurd hdd hn1)|(exact absurd hdd (hn2 _))
              rw[hsf] at h0;cases h0
       · exact hg'.elim
     · exact hg'.elim
   · exact hg'.elim
end
end Go.Den
namespace Go.Den
open Go.RowKit
open Classical
section
variable(ops:Array Oper)
def Ei(i:Nat):Option Tmp:=(ops[i]?).bind (·.dst)
def FS(v:Nat→AV)(f0:FT)(S:Nat→Bool):Nat→FT
 |0=>f0
 |n+1=>if S n=true then Du (FS v f0 S n) (Ei ops n) (v n) else FS v f0 S n
def upd{α:Type}(v:Nat→α)(i:Nat)(a:α):Nat→α:=fun j=>if j=i then a else v j
inductive Anc:Nat→Nat→Prop
 |Awo {i:Nat} {o:Oper} {e:Edge}:ops[i]? =some o→e∈o.after→Region.binds .any e=true→Anc i e.on
 |trans {i j k:Nat}:Anc i j→Anc j k→Anc i k
variable{ops}
theorem Jd(f:FT)(d:Option Tmp)(a:AV)(t:Nat):Du f d a t=if d=some t then a else f t:=by
 cases d with
 |none=>simp[Du]
 |some d=>
  show Ao f d a t=_
  rw[Hr]
  by_cases e:t=d
  · subst e;simp
  · rw[if_neg e,if_neg (fun h=>e (Option.some.inj h).symm)]
theorem Rr{v v':Nat→AV}{f0:FT}{S X:Nat→Bool}{t:Nat}:∀{n:Nat},(∀j,j<n→Ei ops j=some t→S j=X j∧(S j=true→v j=v' j))→FS ops v f0 S n t=FS ops v' f0 X n t
 |0,_=>rfl
 |n+1,h=>by
  have ih:=Rr (f0:=f0) (n:=n) fun j hj=>h j (Nat.lt_succ_of_lt hj)
  have key:∀(w:Nat→AV)(Y:Nat→Bool),FS ops w f0 Y (n+1) t=if Y n=true∧Ei ops n=some t then w n else FS ops w f0 Y n t:=fun w Y=>by
   simp only[FS]
   by_cases hy:Y n=true
   · rw[if_pos hy,Jd];simp[hy]
   · rw[if_neg hy];simp[hy]
  rw[key,key]
  by_cases hd:Ei ops n=some t
  · obtain⟨h1,h2⟩:=h n (Nat.lt_succ_self n) hd
    rw[←h1]
    by_cases hs:S n=true
    · simp[hs,hd,h2 hs]
    · simp[hs,ih]
  · simp[hd,ih]
theorem Arw{f:FT}{d e:Option Tmp}{a b:AV}(h:d=e→d=none):Du (Du f d a) e b=Du (Du f e b) d a:=by
 funext t
 simp only[Jd]
 by_cases h1:d=some t
 · by_cases h2:e=some t
   · have:=h (h1.trans h2.symm);rw[this] at h1;cases h1
   · simp[h1,h2]
 · simp[h1]
theorem Ad0 {v : Nat → AV} {f0 : FT} {S : Nat → Bool} {i : Nat} {a : AV} (hi : S i = false) : ∀ {n : Nat}, i < n → (∀ j, i < j → j < n → S j = true → Ei ops j = Ei ops i → Ei ops i = none) →
    FS ops (upd v i a) f0 (upd S i true) n = Du (FS ops v f0 S n) (Ei ops i) a
  | 0, h, _ => absurd h (Nat.not_lt_zero _)
  | n + 1, h, hn => by
    by_cases e : i = n
    · subst e
      have hlow : FS ops (upd v i a) f0 (upd S i true) i = FS ops v f0 S i := by
        funext t
        refine Rr fun j hj _ => ?_
        have : j ≠ i := by omega
        simp [upd, this]
      simp only [FS, hlow]
      simp [upd, hi]
    · have hlt : i < n := by omega
      have ih := Ad0 (v := v) (f0 := f0) (a := a) hi hlt fun j h1 h2 => hn j h1 (by omega)
      have hne : n ≠ i := fun h => e h.symm
      simp only [FS, ih]
      have hu : upd S i true n = S n := by simp [upd, hne]
      have hv : upd v i a n = v n := by simp [upd, hne]
      rw [hu, hv]
      by_cases hs : S n = true
      · rw [if_pos hs, if_pos hs]
        exact Arw fun h' => hn n (by omega) (by omega) hs h'.symm
      · rw [if_neg hs, if_neg hs]
structure Wf(P:Program)(E:Env)(N G:Nat)(ops:Array Oper):Prop where
 lt:∀i o e,ops[i]? =some o→e∈o.after→Region.binds .any e=true→e.on<i
 apart:∀i j oi oj,ops[i]? =some oi→ops[j]? =some oj→i≠j→Anc ops i j∨Anc ops j i∨(oi.apart ops oj=true)
 guard:∀i o g w,ops[i]? =some o→o.guard=some (g,w)→Anc ops i g∧∃gd,Ei ops g=some gd∧∀j,Ei ops j=some gd→j=g
 ok:∀o,o∈ops→Hx P E N G o=true
variable{P:Program}{E:Env}{N G:Nat}{D:List Deferred}
theorem Anc.lt(wf:Wf P E N G ops){i j:Nat}(h:Anc ops i j):j<i:=by
 induction h with
 |Awo ho he hb=>exact wf.lt _ _ _ ho he hb
 |trans _ _ h1 h2=>omega
def DC(ops:Array Oper)(S:Nat→Bool):Prop:=∀i o e,S i=true→ops[i]? =some o→e∈o.after→Region.binds .any e=true→S e.on=true
theorem DC.anc{S:Nat→Bool}(h:DC ops S){i j:Nat}(hi:S i=true)(ha:Anc ops i j):S j=true:=by
 induction ha with
 |Awo ho he hb=>exact h _ _ _ hi ho he hb
 |trans _ _ h1 h2=>exact h2 (h1 hi)
def Rdy(ops:Array Oper)(S:Nat→Bool)(i:Nat):Prop:=∀o e,ops[i]? =some o→e∈o.after→Region.binds .any e=true→S e.on=true
theorem Rdy.anc{S:Nat→Bool}{i:Nat}(h:Rdy ops S i)(dc:DC ops S){j:Nat}(ha:Anc ops i j):S j=true:=by
 have key:∀{i j:Nat},Anc ops i j→Rdy ops S i→S j=true:=by
  intro i j h
  induction h with
  |Awo ho he hb=>intro r;exact r _ _ ho he hb
  |trans _ h2 ih1 _=>intro r;exact dc.anc (ih1 r) h2
 exact key ha h
theorem DC.insert{S:Nat→Bool}(dc:DC ops S){i:Nat}(r:Rdy ops S i):DC ops (upd S i true):=by
 intro j o e hj ho he hb
 have:S e.on=true:=by
  by_cases h:j=i
  · subst h;exact r o e ho he hb
  · refine dc j o e ?_ ho he hb
    simpa[upd,h] using hj
 simp only[upd]
 split
 · rfl
 · exact this
def Bka(ops:Array Oper)(i:Nat):Nat→Bool:=fun j=>decide (Anc ops i j)
def FA(ops:Array Oper)(v:Nat→AV)(f0:FT)(i:Nat):FT:=FS ops v f0 (Bka ops i) ops.size
theorem Mp{j t:Nat}(h:Ei ops j=some t):∃o,ops[j]? =some o∧o.dst=some t:=by
 unfold Ei at h
 cases ho:ops[j]? with
 |none=>rw[ho] at h;cases h
 |some o=>rw[ho] at h;exact⟨o,rfl,h⟩
theorem Md(wf:Wf P E N G ops){v:Nat→AV}{f0:FT}{S:Nat→Bool}(dc:DC ops S){i:Nat}{o:Oper}(ho:ops[i]? =some o)(hi:S i=false)(r:Rdy ops S i){t:Nat}(ht:t∈o.looksAt ops):FS ops v f0 S ops.size t=FA ops v f0 i t:=by
 refine Rr fun j hj hd=>⟨?_,fun _=>rfl⟩
 obtain⟨oj,hoj,hdj⟩:=Mp hd
 show S j=decide (Anc ops i j)
 by_cases hs:S j=true
 · rw[hs]
   symm;rw[decide_eq_true_eq]
   have hne:i≠j:=fun e=>by rw[e,hs] at hi;cases hi
   rcases wf.apart i j o oj ho hoj hne with h|h|h
   · exact h
   · have:=dc.anc hs h;rw[hi] at this;cases this
   · exact absurd ht ((Oper.apart_spec h).2.2 t hdj)
 · have:¬Anc ops i j:=fun h=>hs (r.anc dc h)
   rw[decide_eq_false this]
   simpa using hs
theorem Ag6(wf:Wf P E N G ops){v:Nat→AV}{f0:FT}{S:Nat→Bool}(dc:DC ops S){i:Nat}{o:Oper}(ho:ops[i]? =some o)(hi:S i=false){a:AV}:FS ops (upd v i a) f0 (upd S i true) ops.size=Du (FS ops v f0 S ops.size) o.dst a:=by
 have hlt:i<ops.size:=(Array.getElem?_eq_some_iff.1 ho).1
 have hd:Ei ops i=o.dst:=by unfold Ei;rw[ho];rfl
 rw[Ad0 hi hlt,hd]
 intro j hij hj hs he
 have hoj:ops[j]? =some ops[j]:=Array.getElem?_eq_getElem hj
 rcases wf.apart i j o ops[j] ho hoj (by omega) with h|h|h
 · have:=h.lt wf;omega
 · have:=dc.anc hs h;rw[hi] at this;cases this
 · cases hdi:Ei ops i with
   |none=>rfl
   |some d=>
    rw[hdi] at he
    obtain⟨oj,hoj',hdj⟩:=Mp he
    rw[hoj] at hoj';cases hoj'
    exact absurd hdj ((Oper.apart_spec h).2.1 d (by rw[←hd,hdi]))
theorem Nw{v:Nat→AV}{f0:FT}{S:Nat→Bool}{g gd:Nat}(hd:Ei ops g=some gd)(hu:∀j,Ei ops j=some gd→j=g)(hs:S g=true):FS ops v f0 S ops.size gd=v g:=by
 obtain⟨o,ho,_⟩:=Mp hd
 have hlt:g<ops.size:=(Array.getElem?_eq_some_iff.1 ho).1
 have key:∀n,g<n→FS ops v f0 S n gd=v g:=by
  intro n
  induction n with
  |zero=>intro h;omega
  |succ n ih=>
   intro h
   simp only[FS]
   by_cases e:g=n
   · subst e;rw[if_pos hs,Jd,if_pos hd]
   · have hne:Ei ops n≠some gd:=fun h=>e (hu n h).symm
     by_cases hsn:S n=true
     · rw[if_pos hsn,Jd,if_neg hne];exact ih (by omega)
     · rw[if_neg hsn];exact ih (by omega)
 exact key _ hlt
def Rq(v:Nat→AV)(o:Oper):Prop:=∀g w,o.guard=some (g,w)→v g=.bool w
def Ajz(v:Nat→AV)(o:Oper):Prop:=∃g w,o.guard=some (g,w)∧(v g=.undef∨v g=.bool (!w))
structure Did(ops:Array Oper)(E:Env)(call:CF)(f0:FT)(v:Nat→AV)(h:H)(i:Nat)(o:Oper):Prop where
 sub:∃fi:FT,(∀t∈o.looksAt ops,fi t=.top∨fi t=FA ops v f0 i t)∧kindOf E o.op≤1∧(∀k:KV,k (v i) h→Ea E o.op call fi h k)∧(kindOf E o.op=0→∀(h':H)(k:KV),k (v i) h'→Ea E o.op call fi h' k)
def Fact(ops:Array Oper)(E:Env)(call:CF)(f0:FT)(v:Nat→AV)(h:H)(i:Nat):Prop:=
 ∃o,ops[i]? =some o∧((Rq v o∧Did ops E call f0 v h i o)∨(Ajz v o∧v i=.undef))
theorem Nx{v v':Nat→AV}{f0:FT}{i:Nat}(h:∀j,Anc ops i j→v j=v' j):FA ops v f0 i=FA ops v' f0 i:=by
 funext t
 refine Rr fun j _ _=>⟨rfl,fun hs=>h j (by simpa[Bka] using hs)⟩
theorem Fact.congr(wf:Wf P E N G ops){call:CF}{f0:FT}{v v':Nat→AV}{h:H}{i:Nat}(hv:∀j,j=i∨Anc ops i j→v j=v' j)(hf:Fact ops E call f0 v h i):Fact ops E call f0 v' h i:=by
 obtain⟨o,ho,hf⟩:=hf
 refine⟨o,ho,?_⟩
 rcases hf with⟨hw,⟨fi,h1,h2,h3,h4⟩⟩|⟨⟨g,w,hg,hu⟩,hvi⟩
 · refine .inl ⟨fun g w hg=>?_,⟨fi,fun t ht=>?_,h2,?_,?_⟩⟩
   · rw[←hv g (.inr (wf.guard i o g w ho hg).1)];exact hw g w hg
   · rw[←Nx fun j hj=>hv j (.inr hj)];exact h1 t ht
   · rw[←hv i (.inl rfl)];exact h3
   · rw[←hv i (.inl rfl)];exact h4
 · refine .inr ⟨⟨g,w,hg,?_⟩,?_⟩
   · rw[←hv g (.inr (wf.guard i o g w ho hg).1)];exact hu
   · rw[←hv i (.inl rfl)];exact hvi
theorem Bal{ro:Option Nat}(wf:Wf P E N G ops)(ok:Cg P E){call:CF}(hcall:Fb P (CP E) G (fun p=>p) call){Q:Exit→Act→World→Prop}{f0:FT}{v:Nat→AV}{h:H}{i:Nat}(hf:Fact ops E call f0 v h i)
 {S:Nat→Bool} (dc:DC ops S) (hi:S i=false) (r:Rdy ops S i) {μ:Mu} {a:Act} {w:World} (fr:FR μ N D (FS ops v f0 S ops.size) a) (s:Sim μ h w) (gl:Hj μ G) {next:Act→World→Prop}
 (hn:∀(μ':Mu)(a':Act)(w':World),FR μ' N D (FS ops v f0 (upd S i true) ops.size) a'→Sim μ' h w'→Dc μ h w μ' h w'→next a' w'):wpOpIn (Fo ro) 0 P ops Q i next a w:=by
 obtain⟨o,ho,hf⟩:=hf
 have hok:=wf.ok o (Array.mem_of_getElem? ho)
 simp only[Hx,Bool.and_eq_true] at hok
 have hput:∀b,FS ops (upd v i b) f0 (upd S i true) ops.size=Du (FS ops v f0 S ops.size) o.dst b:=fun b=>Ag6 wf dc ho hi
 have hself:upd v i (v i)=v:=by funext j;simp only[upd];split<;>simp_all
 have hput:=hput (v i)
 rw[hself] at hput
 have hguard:∀g w',o.guard=some (g,w')→∃gd,((ops[g]?).bind (·.dst))=some gd∧VR μ (v g) (a.tmps.getD gd undef)∧gd<a.tmps.size:=fun g w' hg=>by
  obtain⟨hga,gd,hd,hu⟩:=wf.guard i o g w' ho hg
  refine⟨gd,hd,?_,?_⟩
  · have:=fr.get gd
    rw[Nw hd hu (r.anc dc hga)] at this
    exact this
  · obtain⟨og,hog,hdg⟩:=Mp hd
    have:=wf.ok og (Array.mem_of_getElem? hog)
    simp only[Hx,Bool.and_eq_true] at this
    rw[hdg] at this
    exact Nat.lt_of_lt_of_le (by simpa[Px] using this.1) fr.size
 unfold wpOpIn
 rw[ho]
 simp only
 rcases hf with⟨hw,⟨fi,h1,h2,h3,_⟩⟩|⟨⟨g,w',hg,hu⟩,hvi⟩
 · have hwant:Region.wanted o (yielded ops a.tmps)=true:=by
    unfold Region.wanted
    cases hg:o.guard with
    |none=>rfl
    |some p=>
     obtain⟨g,w'⟩:=p
     obtain⟨gd,hd,hv,hlt⟩:=hguard g w' hg
     rw[hw g w' hg] at hv
     have hv:a.tmps.getD gd undef=.bool w':=hv
     show(yielded ops a.tmps g==some w')=true
     rw[Jl,hd]
     show(yb (a.tmps[gd]?)==some w')=true
     have:a.tmps[gd]? =some (.bool w'):=by
      rw[Array.getElem?_eq_getElem hlt] at*
      rw[Array.getD_eq_getD_getElem?,Array.getElem?_eq_getElem hlt] at hv
      exact congrArg some hv
     rw[this];simp[yb]
   rw[if_pos hwant]
   have hex:=Aa8 (h3 (fun v' h'=>v'=v i∧h'=h) ⟨rfl,rfl⟩)
   have hopn:∀x∈o.op.operands.toList,Eu G x=true:=by
    have hop:=hok.2
    simp only[Aag,Bool.and_eq_true] at hop
    exact fun x hx=>(List.all_eq_true.1 hop.1) x hx
   refine Af7 (C:=CP E) (good:=fun p=>p) (fun h=>h) ok hcall hok.2 (fun x hx=>?_) s gl hex ?_
   · refine Zb (C:=CP E) gl (hopn x hx) fun t ht=>?_
     subst ht
     have htl:t∈o.looksAt ops:=List.mem_append_left _ (List.mem_filterMap.2 ⟨.tmp t,hx,rfl⟩)
     show VR μ (fi t) (a.tmps.getD t undef)
     rcases h1 t htl with h|h
     · rw[h];trivial
     · rw[h,←Md wf dc ho hi r htl];exact fr.get t
   · intro μ' av h' u w' s' x' hv hk
     obtain⟨e1,e2⟩:=hk
     subst e1
     subst e2
     refine hn μ' _ w' ?_ s' x'
     rw[hput]
     exact(fr.mono x'.le).put hok.1 hv
 · have hwant:Region.wanted o (yielded ops a.tmps)=false:=by
    unfold Region.wanted
    rw[hg]
    obtain⟨gd,hd,hv,hlt⟩:=hguard g w' hg
    show(yielded ops a.tmps g==some w')=false
    rw[Jl,hd]
    show(yb (a.tmps[gd]?)==some w')=false
    have hget:a.tmps[gd]? =some (a.tmps.getD gd undef):=by
     rw[Array.getD_eq_getD_getElem?,Array.getElem?_eq_getElem hlt];rfl
    rcases hu with hu|hu
    · rw[hu] at hv
      obtain⟨vs,hvs,hl⟩:=hv
      rw[hget,hvs];rfl
    · rw[hu] at hv
      have hv:a.tmps.getD gd undef=.bool (!w'):=hv
      rw[hget,hv];cases w'<;>rfl
   rw[if_neg (by rw[hwant];simp)]
   refine⟨fun _ _=>trivial,?_⟩
   refine hn μ _ w ?_ s (.refl _ _ _)
   rw[hput,hvi]
   exact fr.put hok.1 (VR.undef μ)
end
end Go.Den
namespace Go.Den
open Go.RowKit
open Classical
section
variable{P:Program}{E:Env}{N G:Nat}{D:List Deferred}{ops:Array Oper}
def Aq7(P:Program)(E:Env)(o:Op)(f:FT)(u:Go.Den.P→AV)(ob:Ob FT):Prop:=
 ∀{μ:Mu}{a:Act},(∀x∈o.operands.toList,VR μ (eval' E x f) (a.eval x))→∃sem:Sem Value,(∀q:Oper,q.op=o→execOp a.eval q=(do pure (.value (←sem))))∧Ms P μ sem u ob
theorem Avy(ok:Cg P E){o:Op}(hf:Vb o=true){call:CF}{f:FT}{h:H}{k:KV}(hg:Ea E o call f h k):∃u ob,k (u h.next) (h.new ob)∧Aq7 P E o f u ob:=by
 cases o<;>try cases hf
 case alloc e=>
  have hg:(match E.ty e with
   |some i=>h.Cs (rowOf e i.zero) (fun b h=>k (.ptr b 0) h)
   |none=>False):=hg
  cases hi:E.ty e with
  |none=>rw[hi] at hg;exact hg.elim
  |some i=>
   rw[hi] at hg
   have hg:h.Cs (rowOf e i.zero) (fun b h=>k (.ptr b 0) h):=hg
   rw[Mj] at hg
   refine⟨fun p=>.ptr p 0,rowOf e i.zero,hg,fun{μ a} _=>⟨Instr.alloc e true (.tuple #[]),fun q hq=>?_,Sz ok hi μ⟩⟩
   obtain⟨dst,op,type,pos,after,guard⟩:=q
   cases hq;rfl
 case makeMap t r=>
  cases r with
  |some=>cases hf
  |none=>
   have hg:h.Cs (.map [] 0) (fun b h=>k (.map b) h):=hg
   rw[Mj] at hg
   refine⟨fun p=>.map p,.map [] 0,hg,fun{μ a} _=>⟨Instr.makeMap t none,fun q hq=>?_,Sy μ t⟩⟩
   obtain⟨dst,op,type,pos,after,guard⟩:=q
   cases hq;rfl
 case makeSlice t x y=>
  obtain⟨v,h',hr,hg⟩:=Dm (C:=CP E) (good:=fun p=>p) (fun h=>h) (show Dz (CP E) k (Ap E t (fun e ei=>Ge (Bp (eval (CP E) x f)) (Bp (eval (CP E) y f)) h e ei)) from hg)
  obtain⟨u,ob,e,_,hfr⟩:=Py ok hr
  cases e
  refine⟨u,ob,hg,fun{μ a} hv=>⟨Instr.makeSlice t (a.eval x) (a.eval y),fun q hq=>?_,hfr (hv x (by simp[Op.operands])) (hv y (by simp[Op.operands]))⟩⟩
  obtain⟨dst,op,type,pos,after,guard⟩:=q
  cases hq;rfl
 case buildSlice t n ps=>
  obtain⟨v,h',hr,hg⟩:=Dm (C:=CP E) (good:=fun p=>p) (fun h=>h) (show Dz (CP E) k (Ap E t (fun e ei=>Ak n (Is (CP E) f ps.toList) h e ei)) from hg)
  obtain⟨u,ob,e,_,hfr⟩:=Nq ok hr
  cases e
  refine⟨u,ob,hg,fun{μ a} hv=>⟨Instr.buildSlice t n (ps.map fun(i,x)=>(i,a.eval x)),fun q hq=>?_,hfr ?_⟩⟩
  · obtain⟨dst,op,type,pos,after,guard⟩:=q
    cases hq;rfl
  · have:=Im.map (μ:=μ) (a:=a) (C:=CP E) (f:=f) (l:=ps.toList) fun x hx=>hv x (by simpa[Op.operands] using hx)
    have this2:Im μ (ps.toList.map fun p=>(p.1,eval (CP E) p.2 f)) (ps.map fun(i,x)=>(i,a.eval x)).toList:=by simpa using this
    exact Eq.mpr (congrArg (fun l=>Im μ l _) (Ph (C:=CP E) (f:=f) ps.toList)) this2
 case box e x=>
  have hg:=Aqt (show A2c E e (eval' E x f) h k from hg)
  rw[Ch] at hg
  cases hn:Nat.ble 1 (len (eval' E x f).cells) with
  |false=>rw[hn] at hg;exact hg.elim
  |true=>
   rw[hn] at hg
   have hg:h.Cs (rowOf e (eval' E x f).cells) (fun b h=>k (.ptr b 0) h):=hg
   rw[Mj] at hg
   refine⟨fun p=>.ptr p 0,rowOf e (eval' E x f).cells,hg,fun{μ a} hv=>⟨Instr.box e (a.eval x),fun q hq=>?_,Ar7 e (hv x (by simp[Op.operands])) hn⟩⟩
   obtain⟨dst,op,type,pos,after,guard⟩:=q
   cases hq;rfl
structure Aq6(P:Program)(ops:Array Oper)(E:Env)(f0:FT)(v:Nat→AV)(h:H)(i:Nat)(p:Go.Den.P):Prop where
 ex:∃(o:Oper)(fi:FT)(u:Go.Den.P→AV)(ob:Ob FT),ops[i]? =some o∧Vb o.op=true∧o.guard=none∧(∀t∈o.looksAt ops,fi t=.top∨fi t=FA ops v f0 i t)∧Aq7 P E o.op fi u ob∧v i=u p∧h.at p=ob
theorem Aq6.congr{f0:FT}{v v':Nat→AV}{h h':H}{i:Nat}{p:Go.Den.P}(hv:∀j,j=i∨Anc ops i j→v j=v' j)(ha:h'.at p=h.at p)(g:Aq6 P ops E f0 v h i p):Aq6 P ops E f0 v' h' i p:=by
 obtain⟨o,fi,u,ob,h1,h0,h2,h3,h4,h5,h6⟩:=g.ex
 refine⟨o,fi,u,ob,h1,h0,h2,fun t ht=>?_,h4,by rw[←hv i (.inl rfl)];exact h5,ha.trans h6⟩
 rw[←Nx fun j hj=>hv j (.inr hj)];exact h3 t ht
theorem Sim.ghost{μ:Mu}{h:H}{w:World}(s:Sim μ h w)(ob:Ob FT):Sim μ (h.new ob) w:=by
 have hn:=s.none (b:=h.next) (Nat.le_refl _)
 have hsucc:(h.new ob).next.nat=h.next.nat+1:=P.Dx _
 have hne:∀b l,μ b=some l→b≠h.next:=fun b l hb e=>by rw[e,hn] at hb;cases hb
 refine⟨fun b l hb=>?_,fun b hb=>?_,fun b l hb hl=>?_,fun b b' l l' hb hb' hl hl' he=>?_⟩
 · have:=s.fresh b l hb;omega
 · rw[Fs,if_neg (fun e=>by rw[e] at hb;omega)];exact s.dead b (by omega)
 · rw[Fs,if_neg (hne b l hl)] at hb ⊢;exact s.ob b l hb hl
 · rw[Fs,if_neg (hne b l hl)] at hb
   rw[Fs,if_neg (hne b' l' hl')] at hb'
   exact s.inj b b' l l' hb hb' hl hl' he
theorem Dc.A09{μ0 μ:Mu}{h0 h:H}{w0 w:World}(x:Dc μ0 h0 w0 μ h w)(s:Sim μ h w)(ob:Ob FT):Dc μ0 h0 w0 μ (h.new ob) w:=by
 have hn:=s.none (b:=h.next) (Nat.le_refl _)
 have hsucc:(h.new ob).next.nat=h.next.nat+1:=P.Dx _
 refine⟨x.le,x.size,x.keep,?_,⟨?_,fun b hb e=>?_⟩,x.os,x.tape,x.output⟩
 · rintro k hk ⟨b,l,hb,hl,e⟩
   rw[Fs,if_neg (fun e=>by rw[e,hn] at hl;cases hl)] at hb
   exact x.own k hk ⟨b,l,hb,hl,e⟩
 · have:=x.ghost.1;omega
 · obtain⟨e1,e2⟩:=x.ghost.2 b hb e
   refine⟨e1,?_⟩
   rw[Fs,if_neg (fun e=>by have:=x.ghost.1;rw[e] at hb;omega)];exact e2
theorem Sim.fill{μ:Mu}{h:H}{w:World}(s:Sim μ h w){p:Go.Den.P}(hp:p.nat<h.next.nat)(hm:μ p=Option.none){obj:Obj}{sz:Nat}(ho:∀μ',Mu.le μ μ'→ObR μ' (w.alloc obj) ⟨w.heap.size,0,sz⟩ (h.at p)):
 Mu.le μ (μ.set p ⟨w.heap.size,0,sz⟩)∧Sim (μ.set p ⟨w.heap.size,0,sz⟩) h (w.alloc obj):=by
 have hle:=Mu.Aau (l:=⟨w.heap.size,0,sz⟩) hm
 have hold:∀k,k<w.heap.size→(w.alloc obj).heap[k]? =w.heap[k]? :=fun k hk=>Below.heap_alloc w obj k hk
 have hlt:∀b l,h.at b≠.dead→μ b=some l→l.blk<w.heap.size:=fun b l hb hl=>(s.ob b l hb hl).lt hb
 refine⟨hle,fun b l hb=>?_,s.dead,fun b l hb hl=>?_,fun b b' l l' hb hb' hl hl' he=>?_⟩
 · by_cases e:b=p
   · rw[e];exact hp
   · rw[Mu.Cf _ _ e] at hb;exact s.fresh b l hb
 · by_cases e:b=p
   · subst e;rw[Mu.Cq] at hl;cases hl;exact ho _ hle
   · rw[Mu.Cf _ _ e] at hl
     have r:=s.ob b l hb hl
     exact(r.mono hle).world (hold _ (r.lt hb))
 · have hb0:h.at b≠.dead:=fun e0=>by rw[e0] at hb;cases hb
   by_cases e:b=p
   · by_cases e':b'=p
     · rw[e,e']
     · rw[e,Mu.Cq] at hl;cases hl
       rw[Mu.Cf _ _ e'] at hl'
       have:=hlt b' l' hb' hl'
       simp at he;omega
   · rw[Mu.Cf _ _ e] at hl
     by_cases e':b'=p
     · rw[e',Mu.Cq] at hl';cases hl'
       have:=hlt b l hb0 hl
       simp at he;omega
     · rw[Mu.Cf _ _ e'] at hl'
       exact s.inj b b' l l' hb hb' hl hl' he
theorem Dc.fill{μ0 μ:Mu}{h0 h:H}{w0 w:World}(x:Dc μ0 h0 w0 μ h w){p:Go.Den.P}(hp:h0.next.nat≤p.nat)(hm:μ p=none)(obj:Obj)(sz:Nat):Dc μ0 h0 w0 (μ.set p ⟨w.heap.size,0,sz⟩) h (w.alloc obj):=by
 have hle:=Mu.Aau (l:=⟨w.heap.size,0,sz⟩) hm
 refine⟨x.le.trans hle,?_,fun k hk ho=>?_,?_,⟨x.ghost.1,fun b hb e=>?_⟩,x.os,x.tape,x.output⟩
 · rw[World.size_alloc];have:=x.size;omega
 · rw[Below.heap_alloc w obj k (Nat.lt_of_lt_of_le hk x.size)];exact x.keep k hk ho
 · rintro k hk ⟨b,l,hb,hl,e⟩
   by_cases eb:b=p
   · rw[eb,Mu.Cq] at hl;cases hl
     have:=x.size
     simp at e;omega
   · rw[Mu.Cf _ _ eb] at hl
     exact x.own k hk ⟨b,l,hb,hl,e⟩
 · obtain⟨e1,e2⟩:=x.ghost.2 b hb e
   exact⟨by rw[Mu.Cf _ _ (fun e=>by rw[e] at hb;omega)];exact e1,e2⟩
end
end Go.Den
namespace Go.Den
open Go.RowKit
open Classical
def asg(A:List Nat):Nat→Bool:=fun i=>decide (i∈A)
theorem Df{A:List Nat}{i:Nat}:asg A i=true↔i∈A:=by simp[asg]
theorem Ns{A:List Nat}{i:Nat}:asg A i=false↔i∉A:=by simp[asg]
theorem Ki(A:List Nat)(i:Nat):asg (A++[i])=upd (asg A) i true:=by
 funext j
 simp only[asg,upd,List.mem_append,List.mem_singleton]
 by_cases h:j=i<;>simp[h]
def Sub(f F:FT):Prop:=∀t,f t=.top∨f t=F t
def Kj(A:List Nat)(v v':Nat→AV):Prop:=∀i∈A,v' i=v i
theorem Kj.refl(A:List Nat)(v:Nat→AV):Kj A v v:=fun _ _=>rfl
theorem Kj.trans{A B:List Nat}{v v' v'':Nat→AV}(h:Kj A v v')(k:Kj B v' v'')(hs:∀i∈A,i∈B):Kj A v v'':=fun i hi=>(k i (hs i hi)).trans (h i hi)
theorem Sub.Du{f F:FT}(h:Sub f F)(d:Option Tmp)(a:AV):Sub (Du f d a) (Du F d a):=fun t=>by
 rw[Jd,Jd]
 by_cases e:d=some t
 · rw[if_pos e,if_pos e];exact .inr rfl
 · rw[if_neg e,if_neg e];exact h t
def Dr.idx(its:Dr):List Nat:=Dr.rec [] (fun i _ _ _ ih=>i::ih) (fun _ _ _ _ ip _ _ ihb ihr=>ihb++ip::ihr) its
theorem Avn(i:Nat)(o:Oper)(rl:List (Nat×Oper))(r:Dr):(Dr.op i o rl r).idx=i::r.idx:=rfl
theorem Mm(j:Nat)(gd:Tmp)(w:Bool)(b:Dr)(ip:Nat)(pk:Oper)(r:Dr):(Dr.grp j gd w b ip pk r).idx=b.idx++ip::r.idx:=rfl
theorem Awr(l:List (Option Tmp)):∀(f:FT)(t:Nat),Yf l f t=.top∨(Yf l f t=f t∧some t∉l):=by
 induction l with
 |nil=>intro f t;exact .inr ⟨rfl,by simp⟩
 |cons d l ih=>
  intro f t
  show Yf l (Den.Du f d .top) t=.top∨(Yf l (Den.Du f d .top) t=f t∧_)
  rcases ih (Den.Du f d .top) t with h|⟨h,hl⟩
  · exact .inl h
  · rw[h,Jd]
    by_cases e:d=some t
    · left;rw[if_pos e]
    · right;rw[if_neg e]
      exact⟨rfl,by simp only[List.mem_cons,not_or];exact⟨fun h=>e h.symm,hl⟩⟩
section
variable{ops:Array Oper}{P:Program}{E:Env}{N G:Nat}{D:List Deferred}{call:CF}{f0:FT}{Kf:FT→H→Prop}
structure Zh(ops:Array Oper)(E:Env)(o:Oper)(rl:List Oper)(A:List Nat):Prop where
 fresh:Vb o.op=true
 guard:o.guard=none
 kinds:∀o∈rl,kindOf E o.op=0∨kindOf E o.op=1
 look:∀l ol,l∈A→ops[l]? =some ol→kindOf E ol.op=1→ol∈rl∧(∃d,ol.dst=some d∧∀j,Ei ops j=some d→j=l)∧∀t∈ol.looksAt ops,∀j,Ei ops j=some t→Anc ops l j
structure Ag1(ops:Array Oper)(E:Env)(i:Nat)(rl:List Oper)(A B:List Nat):Prop where
 kinds:∀o∈rl,kindOf E o.op=0∨kindOf E o.op=1
 later:∀j∈B,Anc ops j i
 look:∀l ol,l∈A→ops[l]? =some ol→kindOf E ol.op=1→Anc ops i l∨ol∈rl
 rl:∀l ol,l∈A→ops[l]? =some ol→kindOf E ol.op=1→Anc ops i l∨((∃d,ol.dst=some d∧∀j,Ei ops j=some d→j=l)∧∀t∈ol.looksAt ops,∀j,Ei ops j=some t→Anc ops l j)
mutual
inductive Good (ops:Array Oper) (E:Env) (call:CF) (f0:FT) (Kf:FT→H→Prop):List Nat→(Nat→AV)→List Nat→List Nat→(FT→H→Prop)→Prop
 |mk {A0:List Nat} {v0:Nat→AV} {A rem:List Nat} {C:FT→H→Prop} (h:∀v f hh,Kj A0 v0 v→Sub f (FS ops v f0 (asg A) ops.size)→C f hh→Out ops E call f0 Kf A rem v hh):Good ops E call f0 Kf A0 v0 A rem C
inductive Out (ops:Array Oper) (E:Env) (call:CF) (f0:FT) (Kf:FT→H→Prop):List Nat→List Nat→(Nat→AV)→H→Prop
 |fin {A rem:List Nat} {v v':Nat→AV} {f':FT} {hh:H} (he:Kj A v v') (hf:∀i∈rem,Fact ops E call f0 v' hh i) (hs:Sub f' (FS ops v' f0 (asg (A++rem)) ops.size)) (hk:Kf f' hh):Out ops E call f0 Kf A rem v hh
 |stop {A A1 B:List Nat} {e:Nat} {v v':Nat→AV} {f':FT} {hh:H} {o:Oper} {rl:List Oper} {C:FT→H→Prop} (he:Kj A v v') (hf:∀i∈A1,Fact ops E call f0 v' hh i) (hs:Sub f' (FS ops v' f0 (asg (A++A1)) ops.size))
  (ho:ops[e]? =some o) (hw:Rq v' o) (hn:e∉A++A1) (hst:Ag1 ops E e rl (A++A1) B) (hx:Ea E o.op call f' hh (fun u h'=>coK E o.type u (fun u=>Og E call rl (Den.Du f' o.dst u) h' (C (Den.Du f' o.dst u) h'))))
  (hg:Good ops E call f0 Kf (A++A1) v' (A++A1++[e]) B C):Out ops E call f0 Kf A (A1++e::B) v hh
 |ghost {A A1 B:List Nat} {e:Nat} {v v':Nat→AV} {f':FT} {hh:H} {o:Oper} {rl:List Oper} {C:FT→H→Prop} (he:Kj A v v') (hf:∀i∈A1,Fact ops E call f0 v' hh i) (hs:Sub f' (FS ops v' f0 (asg (A++A1)) ops.size))
  (ho:ops[e]? =some o) (hn:e∉A++A1) (hst:Zh ops E o rl (A++A1)) (hx:Ea E o.op call f' hh (fun u h'=>coK E o.type u (fun u=>Og E call rl (Den.Du f' o.dst u) h' (C (Den.Du f' o.dst u) h'))))
  (hg:Good ops E call f0 Kf (A++A1) v' (A++A1++[e]) B C):Out ops E call f0 Kf A (A1++e::B) v hh
end
theorem Good.base{A0 A1 A rem:List Nat}{v0 v1:Nat→AV}{C:FT→H→Prop}(h:Good ops E call f0 Kf A0 v0 A rem C)(hs:∀i∈A0,i∈A1)(he:Kj A0 v0 v1):Good ops E call f0 Kf A1 v1 A rem C:=by
 cases h with
 |mk h=>exact .mk fun v f hh hv hsub hc=>h v f hh (he.trans hv hs) hsub hc
theorem Out.pre(wf:Wf P E N G ops){A L rem:List Nat}{v v1:Nat→AV}{hh:H}(h:Out ops E call f0 Kf (A++L) rem v1 hh)(hf:∀i∈L,Fact ops E call f0 v1 hh i)(he:Kj A v v1)(ha:∀i∈L,∀j,j=i∨Anc ops i j→j∈A++L):Out ops E call f0 Kf A (L++rem) v hh:=by
 have sub:∀i∈A,i∈A++L:=fun i hi=>List.mem_append_left _ hi
 cases h with
 |fin he' hf' hs hk=>
  refine .fin (he.trans he' sub) (fun i hi=>?_) (by rw[←List.append_assoc];exact hs) hk
  rcases List.mem_append.1 hi with hi|hi
  · exact(hf i hi).congr wf fun j hj=>(he' j (ha i hi j hj)).symm
  · exact hf' i hi
 |stop he' hf' hs ho hw hn hst hx hg=>
  rename_i A1 B e v' f' o rl C
  rw[←List.append_assoc]
  refine .stop (he.trans he' sub) (fun i hi=>?_) (by rw[←List.append_assoc];exact hs) ho hw (by rw[←List.append_assoc];exact hn) (by rw[←List.append_assoc];exact hst) hx (by rw[←List.append_assoc];exact hg)
  rcases List.mem_append.1 hi with hi|hi
  · exact(hf i hi).congr wf fun j hj=>(he' j (ha i hi j hj)).symm
  · exact hf' i hi
 |ghost he' hf' hs ho hn hst hx hg=>
  rename_i A1 B e v' f' o rl C
  rw[←List.append_assoc]
  refine .ghost (he.trans he' sub) (fun i hi=>?_) (by rw[←List.append_assoc];exact hs) ho (by rw[←List.append_assoc];exact hn) (by rw[←List.append_assoc];exact hst) hx (by rw[←List.append_assoc];exact hg)
  rcases List.mem_append.1 hi with hi|hi
  · exact(hf i hi).congr wf fun j hj=>(he' j (ha i hi j hj)).symm
  · exact hf' i hi
def OkD(ops:Array Oper)(E:Env)(G:Nat):Dr→Option (Nat×Bool)→List Nat→List Nat→List Nat→Prop
 |.nil,_,_,_,_=>True
 |.op i o rl r,g,lv,A,rest=>ops[i]? =some o∧o.guard=g∧i∉A∧Rdy ops (asg A) i∧(kindOf E o.op≤1→Zq rl=[])∧(kindOf E o.op=2→Ag1 ops E i (Zq rl) A (r.idx++rest)∨Zh ops E o (Zq rl) A)∧OkD ops E G r g (i::lv) (A++[i]) rest
 |.grp j gd w b ip pk r,g,lv,A,rest=>Ei ops j=some gd∧(∀j',Ei ops j'=some gd→j'=j)∧j∈A∧j∈lv∧ops[ip]? =some pk∧pk.guard=g∧Qu G gd w pk.op=true∧ip∉A++b.idx∧Rdy ops (asg (A++b.idx)) ip
  ∧OkD ops E G b (some (j,w)) [] A (ip::r.idx++rest)∧OkD ops E G r g (ip::lv) (A++b.idx++[ip]) rest
theorem Afj:∀{its:Dr}{g:Option (Nat×Bool)}{lv A rest:List Nat},OkD ops E G its g lv A rest→DC ops (asg A)→DC ops (asg (A++its.idx))
 |.nil,_,_,A,_,_,dc=>by show DC ops (asg (A++[]));rw[List.append_nil];exact dc
 |.op i o rl r,_,_,A,_,h,dc=>by
  obtain⟨ho,_,_,hr,_,_,hrr⟩:=h
  have:=Afj hrr (by rw[Ki];exact dc.insert hr)
  rw[List.append_assoc] at this;exact this
 |.grp j gd w b ip pk r,_,_,A,_,h,dc=>by
  obtain⟨_,_,_,_,_,_,_,_,hr,hb,hrr⟩:=h
  have h1:=Afj hb dc
  have:=Afj hrr (by rw[Ki];exact h1.insert hr)
  rw[List.append_assoc,List.append_assoc] at this
  rw[Mm];exact this
theorem Us:∀{its:Dr}{g:Option (Nat×Bool)}{lv A rest:List Nat},OkD ops E G its g lv A rest→∀i∈its.idx,∀d,Ei ops i=some d→some d∈its.Vo
 |.nil,_,_,_,_,_,i,hi,_,_=>by cases hi
 |.op i o rl r,_,_,A,_,h,x,hx,d,hd=>by
  obtain⟨ho,_,_,hr,_,_,hrr⟩:=h
  show some d∈o.dst::r.Vo
  rcases List.mem_cons.1 (show x∈i::r.idx from hx) with rfl|hx
  · unfold Ei at hd;rw[ho] at hd
    rw[show o.dst=some d from hd];simp
  · exact List.mem_cons_of_mem _ (Us hrr x hx d hd)
 |.grp j gd w b ip pk r,_,_,A,_,h,x,hx,d,hd=>by
  obtain⟨_,_,_,_,ho,_,_,_,hr,hb,hrr⟩:=h
  show some d∈Jh b.Vo (pk.dst::r.Vo)
  have happ:∀(l m:List (Option Tmp)),Jh l m=l++m:=by intro l m;induction l with|nil=>rfl|cons x l ih=>show x::Jh l m=_;rw[ih];rfl
  rw[happ,List.mem_append]
  rcases List.mem_append.1 (show x∈b.idx++ip::r.idx from hx) with hx|hx
  · exact .inl (Us hb x hx d hd)
  · right
    rcases List.mem_cons.1 hx with rfl|hx
    · unfold Ei at hd;rw[ho] at hd
      rw[show pk.dst=some d from hd];simp
    · exact List.mem_cons_of_mem _ (Us hrr x hx d hd)
theorem Nd:∀{its:Dr}{g:Option (Nat×Bool)}{lv A rest:List Nat},OkD ops E G its g lv A rest→∀i∈its.idx,i∉A∧∃o,ops[i]? =some o∧(o.guard=g∨∃g' w',o.guard=some (g',w')∧(g'∈lv∨g'∈its.idx))
 |.nil,_,_,_,_,_,i,hi=>by cases hi
 |.op i o rl r,_,_,A,_,h,x,hx=>by
  obtain⟨ho,hg,hn,hr,_,_,hrr⟩:=h
  rcases List.mem_cons.1 (show x∈i::r.idx from hx) with rfl|hx
  · exact⟨hn,o,ho,.inl hg⟩
  · obtain⟨h1,o',ho',h2⟩:=Nd hrr x hx
    refine⟨fun h=>h1 (List.mem_append_left _ h),o',ho',h2.imp id fun⟨g',w',e,h3⟩=>⟨g',w',e,?_⟩⟩
    rcases h3 with h3|h3
    · rcases List.mem_cons.1 h3 with rfl|h3
      · exact .inr (by rw[Avn];simp)
      · exact .inl h3
    · exact .inr (by rw[Avn];simp[h3])
 |.grp j gd w b ip pk r,_,lv,A,_,h,x,hx=>by
  obtain⟨_,_,hjA,hjl,ho,hg,_,hn,hr,hb,hrr⟩:=h
  rcases List.mem_append.1 (show x∈b.idx++ip::r.idx from hx) with hx|hx
  · obtain⟨h1,o',ho',h2⟩:=Nd hb x hx
    refine⟨h1,o',ho',.inr ?_⟩
    rcases h2 with h2|⟨g',w',e,h3⟩
    · exact⟨j,w,h2,.inl hjl⟩
    · refine⟨g',w',e,?_⟩
      rcases h3 with h3|h3
      · cases h3
      · exact .inr (by rw[Mm];simp[h3])
  · rcases List.mem_cons.1 hx with rfl|hx
    · exact⟨fun h=>hn (List.mem_append_left _ h),pk,ho,.inl hg⟩
    · obtain⟨h1,o',ho',h2⟩:=Nd hrr x hx
      refine⟨fun h=>h1 (by simp[h]),o',ho',h2.imp id fun⟨g',w',e,h3⟩=>⟨g',w',e,?_⟩⟩
      rcases h3 with h3|h3
      · rcases List.mem_cons.1 h3 with rfl|h3
        · exact .inr (by rw[Mm];simp)
        · exact .inl h3
      · exact .inr (by rw[Mm];simp[h3])
theorem A02(E:Env)(o:Op):kindOf E o=0∨kindOf E o=1∨kindOf E o=2:=by
 have b1:∀c:Bool,(Bool.rec 1 0 c:Nat)=0∨(Bool.rec 1 0 c:Nat)=1∨(Bool.rec 1 0 c:Nat)=2:=fun c=>by cases c<;>simp
 cases o<;>try exact .inl rfl
 all_goals try exact .inr (.inl rfl)
 all_goals try exact .inr (.inr rfl)
 · rename_i s d x
   show(Bool.rec (Bool.rec 1 2 (Ey E Qz d)) 0 (An (Ex E s) (Ex E d)):Nat)=0∨_
   show _∨(Bool.rec (Bool.rec 1 2 (Ey E Qz d)) 0 (An (Ex E s) (Ex E d)):Nat)=1∨(Bool.rec (Bool.rec 1 2 (Ey E Qz d)) 0 (An (Ex E s) (Ex E d)):Nat)=2
   cases An (Ex E s) (Ex E d)<;>cases Ey E Qz d<;>simp
 · exact b1 _
 · rename_i c
   obtain⟨callee,args,ats⟩:=c
   cases callee with
   |value v=>exact .inr (.inr rfl)
   |invoke r m=>exact .inr (.inr rfl)
   |builtin b=>
    cases b<;>first|exact .inr (.inl rfl)|exact .inr (.inr rfl)|skip
    show(match ats.toList with
     |t::_=>(Bool.rec 1 0 (Ey E Hq t):Nat)
     |[]=>1)=0∨(match ats.toList with
     |t::_=>(Bool.rec 1 0 (Ey E Hq t):Nat)
     |[]=>1)=1∨(match ats.toList with
     |t::_=>(Bool.rec 1 0 (Ey E Hq t):Nat)
     |[]=>1)=2
    cases ats.toList with
    |nil=>exact .inr (.inl rfl)
    |cons t r=>exact b1 _
theorem Oc{A:List Nat}{v:Nat→AV}{i:Nat}{a:AV}(h:i∉A):Kj A v (upd v i a):=fun j hj=>by
 have:j≠i:=fun e=>h (e▸hj)
 simp[upd,this]
theorem Acn{g:Option (Nat×Bool)}{o:Oper}(hg:o.guard=g){v:Nat→AV}(h:∀j w,g=some (j,w)→v j=.bool w):Rq v o:=fun j w e=>h j w (hg▸e)
theorem Sub.snoc(wf:Wf P E N G ops){A:List Nat}(dc:DC ops (asg A)){v:Nat→AV}{f:FT}{i:Nat}{o:Oper}(ho:ops[i]? =some o)(hi:i∉A)(h:Sub f (FS ops v f0 (asg A) ops.size))(a:AV):Sub (Den.Du f o.dst a) (FS ops (upd v i a) f0 (asg (A++[i])) ops.size):=by
 rw[Ki,Ag6 wf dc ho (Ns.2 hi)]
 exact h.Du _ _
theorem Sub.view(wf:Wf P E N G ops){A:List Nat}(dc:DC ops (asg A)){v:Nat→AV}{f:FT}{i:Nat}{o:Oper}(ho:ops[i]? =some o)(hi:i∉A)(r:Rdy ops (asg A) i)(h:Sub f (FS ops v f0 (asg A) ops.size)):∀t∈o.looksAt ops,f t=.top∨f t=FA ops v f0 i t:=fun t ht=>by
 rcases h t with h|h
 · exact .inl h
 · right;rw[h];exact Md wf dc ho (Ns.2 hi) r ht
theorem Apo{A:List Nat}(dc:DC ops (asg A)){i:Nat}(r:Rdy ops (asg A) i):∀j,j=i∨Anc ops i j→j∈A++[i]:=fun j hj=>by
 rcases hj with rfl|hj
 · simp
 · exact List.mem_append_left _ (Df.1 (r.anc dc hj))
theorem Yw (wf : Wf P E N G ops) : ∀ (its : Dr) {g : Option (Nat × Bool)} {lv A rem A0 : List Nat} {v0 : Nat → AV} {K : FT → H → Prop}, OkD ops E G its g lv A rem → DC ops (asg A) → (∀ i ∈ A0, i ∈ A) → (∀ j w, g = some (j, w) → j ∈ A0 ∧ v0 j = .bool w) →
    Good ops E call f0 Kf A0 v0 (A ++ its.idx) rem K → Good ops E call f0 Kf A0 v0 A (its.idx ++ rem) (fun f h => Jj E call its f h K)
  | .nil, g, lv, A, rem, A0, v0, K, _, _, _, _, hk => by
    have hk : Good ops E call f0 Kf A0 v0 (A ++ []) rem K := hk
    rw [List.append_nil] at hk
    exact hk
  | .op i o rl r, g, lv, A, rem, A0, v0, K, hok, dc, hA, hg, hk => by
    obtain ⟨ho, hgu, hn, hr, hrl, hst, hrr⟩ := hok
    have dc' : DC ops (asg (A ++ [i])) := by rw [Ki]; exact dc.insert hr
    have hk' : Good ops E call f0 Kf A0 v0 (A ++ [i] ++ r.idx) rem K := by rw [List.append_assoc]; exact hk
    have hgr := Yw wf r hrr dc' (fun x hx => List.mem_append_left _ (hA x hx)) hg hk'
    refine .mk fun v f hh hv hs hc => ?_
    have hw : Rq v o := Acn hgu fun j w e => by rw [hv j (hg j w e).1]; exact (hg j w e).2
    have hc : Ea E o.op call f hh (fun u h' => coK E o.type u (fun u => Og E call (Zq rl) (Den.Du f o.dst u) h' (Jj E call r (Den.Du f o.dst u) h' K))) := hc
    by_cases hk2 : kindOf E o.op = 2
    · rcases hst hk2 with hst | hst
      · refine Out.stop (A1 := []) (C := fun f h => Jj E call r f h K) (.refl _ _) (fun _ h => nomatch h) (by rw [List.append_nil]; exact hs) ho hw (by rw [List.append_nil]; exact hn) (by rw [List.append_nil]; exact hst) hc ?_
        rw [List.append_nil]
        exact hgr.base hA hv
      · refine Out.ghost (A1 := []) (C := fun f h => Jj E call r f h K) (.refl _ _) (fun _ h => nomatch h) (by rw [List.append_nil]; exact hs) ho (by rw [List.append_nil]; exact hn) (by rw [List.append_nil]; exact hst) hc ?_
        rw [List.append_nil]
        exact hgr.base hA hv
    · have hk1 : kindOf E o.op = 0 ∨ kindOf E o.op = 1 := by
        rcases A02 E o.op with h | h | h
        · exact .inl h
        · exact .inr h
        · exact absurd h hk2
      have hle : kindOf E o.op ≤ 1 := by rcases hk1 with h | h <;> omega
      rw [hrl hle] at hc
      obtain ⟨u, hu, hd1, hd2⟩ := Bi6 hk1 hc
      have hu := Vt hu
      have hu : Jj E call r (Den.Du f o.dst u) hh K := hu
      have hs' := hs.snoc wf dc ho hn u
      have hfact : Fact ops E call f0 (upd v i u) hh i := by
        refine ⟨o, ho, .inl ⟨fun g' w' e => ?_, ⟨f, ?_, hle, ?_, ?_⟩⟩⟩
        · have hgA := Df.1 (hr.anc dc (wf.guard i o g' w' ho e).1)
          rw [Oc hn g' hgA]; exact hw g' w' e
        · intro t ht
          rw [← Nx (v := v) fun j hj => (Oc hn j (Df.1 (hr.anc dc hj))).symm]
          exact hs.view wf dc ho hn hr t ht
        · simp only [upd, if_true]; exact hd1
        · simp only [upd, if_true]; exact hd2
      cases hgr with
      | mk hgr =>
        refine Out.pre wf (L := [i]) (hgr _ _ _ (fun x hx => (Oc hn x (hA x hx)).trans (hv x hx)) hs' hu) (fun x hx => ?_) (Oc hn) (fun x hx => ?_)
        · rw [List.mem_singleton.1 hx]; exact hfact
        · rw [List.mem_singleton.1 hx]; exact Apo dc hr
  | .grp j gd w b ip pk r, g, lv, A, rem, A0, v0, K, hok, dc, hA, hg, hk => by
    obtain ⟨hd, hu, hjA, hjl, hop, hgu, hpk, hn, hr, hb, hrr⟩ := hok
    have dcb := Afj hb dc
    have dc' : DC ops (asg (A ++ b.idx ++ [ip])) := by rw [Ki]; exact dcb.insert hr
    have hk' : Good ops E call f0 Kf A0 v0 (A ++ b.idx ++ [ip] ++ r.idx) rem K := by
      rw [List.append_assoc, List.append_assoc]; rw [Mm] at hk; exact hk
    have hgr := Yw wf r hrr dc' (fun x hx => by simp [hA x hx]) hg hk'
    obtain ⟨x, y, cv, epk, hx, hy, hcv⟩ := Aaf hpk
    refine .mk fun v f hh hv hs hc => ?_
    obtain ⟨t, hft, hc⟩ := Gx (show asB (f gd) (fun t => A8s E w b.Vo pk t (Jj E call b) (Jj E call r) f hh K) from hc)
    have hvj : v j = .bool t := by
      rcases hs gd with h | h
      · rw [hft] at h; cases h
      · rw [Nw hd hu (Df.2 hjA), hft] at h; exact h.symm
    have hc : Ay (fun kj => gate w t (Jj E call b f hh (fun f h => asB (eval' E (Ed w x y) f) (fun v => kj v h))) (asB (eval' E (Ed w y x) f) (fun v => kj v hh)))
        (fun v h => Jj E call r (Den.Du (Yf b.Vo f) pk.dst (.bool v)) h K) := by
      unfold A8s at hc
      rw [epk] at hc
      exact hc
    have hkp : kindOf E pk.op = 0 := by rw [epk]; rfl
    have pick : ∀ (z : Nat → AV) (fz : FT) (h : H) (q : Bool), fz gd = .bool t → (∀ s ∈ pk.looksAt ops, fz s = .top ∨ fz s = FA ops z f0 ip s) → eval' E (Ed t x y) fz = .bool q → z ip = .bool q → Rq z pk → Fact ops E call f0 z h ip := fun z fz h q h1 h2 h3 h4 h5 => by
      have ex : ∀ (h' : H) (k : KV), k (.bool q) h' → Ea E pk.op call fz h' k := fun h' k hk => by
        rw [epk]
        show (Abz.rec False (fun t => Bool.rec (Cj (eval (CP E) y fz) (fun v => k v h')) (Cj (eval (CP E) x fz) (fun v => k v h')) t) (Sj (fz gd)) : Prop)
        rw [h1]
        show (Bool.rec (Cj (eval (CP E) y fz) (fun v => k v h')) (Cj (eval (CP E) x fz) (fun v => k v h')) t : Prop)
        cases t with
        | true =>
          show Cj (eval (CP E) x fz) (fun v => k v h')
          rw [Ch, show eval (CP E) x fz = .bool q from h3]; exact hk
        | false =>
          show Cj (eval (CP E) y fz) (fun v => k v h')
          rw [Ch, show eval (CP E) y fz = .bool q from h3]; exact hk
      exact ⟨pk, hop, .inl ⟨h5, ⟨fz, h2, by rw [hkp]; omega, fun k hk => ex _ k (by rw [← h4]; exact hk), fun _ h' k hk => ex _ k (by rw [← h4]; exact hk)⟩⟩⟩
    have wantpk : ∀ z : Nat → AV, Kj A v z → Rq z pk := fun z hz => Acn hgu fun j' w' e => by
      have := hg j' w' e
      rw [hz j' (hA j' this.1), hv j' this.1]; exact this.2
    -- the frame behind the choice
    have behind : ∀ (z : Nat → AV), Kj A v z → Sub (Yf b.Vo f) (FS ops z f0 (asg (A ++ b.idx)) ops.size) := fun z hz s => by
      rcases Awr b.Vo f s with h | ⟨h, hnot⟩
      · exact .inl h
      · rw [h]
        rcases hs s with h' | h'
        · exact .inl h'
        · right; rw [h']
          refine Rr fun q _ hq => ⟨?_, fun hqA => (hz q (Df.1 hqA)).symm⟩
          have hqb : q ∉ b.idx := fun hm => hnot (Us hb q hm s hq)
          simp only [asg, List.mem_append, hqb, or_false]
    have cont : ∀ (z : Nat → AV) (h : H) (q : Bool), Kj A v z → z ip = .bool q → Jj E call r (Den.Du (Yf b.Vo f) pk.dst (.bool q)) h K → Out ops E call f0 Kf (A ++ b.idx ++ [ip]) (r.idx ++ rem) z h := fun z h q hz hip hrun => by
      cases hgr with
      | mk hgr =>
        refine hgr z _ h (fun i hi => (hz i (hA i hi)).trans (hv i hi)) ?_ hrun
        have := (behind z hz).snoc wf dcb hop hn (.bool q)
        have hself : upd z ip (.bool q) = z := by funext i; simp only [upd]; split <;> simp_all
        rw [hself] at this
        exact this
    by_cases hw : t = w
    · subst hw
      have hc : Jj E call b f hh (fun f' h' => asB (eval' E (Ed t x y) f') (fun v => Jj E call r (Den.Du (Yf b.Vo f) pk.dst (.bool v)) h' K)) := by cases t <;> exact hc
      have hkb : Good ops E call f0 Kf A v (A ++ b.idx) (ip :: r.idx ++ rem) (fun f' h' => asB (eval' E (Ed t x y) f') (fun v => Jj E call r (Den.Du (Yf b.Vo f) pk.dst (.bool v)) h' K)) := by
        refine .mk fun v1 f1 h1 hv1 hs1 hc1 => ?_
        obtain ⟨q, hq, hrun⟩ := Gx hc1
        have hex : Kj (A ++ b.idx) v1 (upd v1 ip (.bool q)) := Oc hn
        have hexA : Kj A v (upd v1 ip (.bool q)) := hv1.trans hex fun i hi => List.mem_append_left _ hi
        have hip : upd v1 ip (AV.bool q) ip = .bool q := by simp [upd]
        refine Out.pre wf (L := [ip]) (cont _ h1 q hexA hip hrun) (fun i hi => ?_) hex (fun i hi => ?_)
        · rw [List.mem_singleton.1 hi]
          have hview : ∀ s ∈ pk.looksAt ops, f1 s = .top ∨ f1 s = FA ops (upd v1 ip (.bool q)) f0 ip s := fun s hs' => by
            rw [← Nx (v := v1) fun i hi => (hex i (Df.1 (hr.anc dcb hi))).symm]
            exact hs1.view wf dcb hop hn hr s hs'
          have hgd : FS ops v1 f0 (asg (A ++ b.idx)) ops.size gd = .bool t := by
            rw [Nw hd hu (Df.2 (List.mem_append_left _ hjA)), hv1 j hjA, hvj]
          have hlook : gd ∈ pk.looksAt ops := by
            unfold Oper.looksAt
            rw [epk]
            simp [Op.operands]
          have hFA : FA ops (upd v1 ip (.bool q)) f0 ip gd = .bool t := by
            rw [← Nx (v := v1) fun i hi => (hex i (Df.1 (hr.anc dcb hi))).symm, ← Md wf dcb hop (Ns.2 hn) hr hlook]
            exact hgd
          refine pick _ (Ao f1 gd (.bool t)) h1 q ?_ ?_ ?_ hip (wantpk _ hexA)
          · rw [Hr, if_pos rfl]
          · intro s hs'
            rw [Hr]
            by_cases e : s = gd
            · rw [if_pos e]; right; rw [e, hFA]
            · rw [if_neg e]; exact hview s hs'
          · rcases hs1 gd with h | h
            · refine Eq.trans ?_ hq
              cases hch : Ed t x y with
              | tmp s =>
                rw [hch] at hq
                have hq' : f1 s = .bool q := hq
                have hne : s ≠ gd := fun e => by rw [e, h] at hq'; cases hq'
                show Ao f1 gd (.bool t) s = f1 s
                rw [Hr, if_neg hne]
              | const c => rfl
              | global g => rfl
              | func g => rfl
            · rw [hgd] at h
              have : Ao f1 gd (.bool t) = f1 := by
                funext u; rw [Hr]; by_cases e : u = gd
                · rw [if_pos e, e, h]
                · rw [if_neg e]
              rw [this]; exact hq
        · rw [List.mem_singleton.1 hi]; exact Apo dcb hr
      have := Yw wf b hb dc (fun i hi => hi) (fun j' w' e => by cases e; exact ⟨hjA, hvj⟩) hkb
      cases this with
      | mk this =>
        have := this v f hh (.refl _ _) hs hc
        rw [Mm, List.append_assoc]
        exact this
    · have hc : asB (eval' E (Ed w y x) f) (fun v => Jj E call r (Den.Du (Yf b.Vo f) pk.dst (.bool v)) hh K) := by
        cases t <;> cases w <;> first | exact hc | exact absurd rfl hw
      obtain ⟨q, hq, hrun⟩ := Gx hc
      -- nothing of the body is done
      let z : Nat → AV := fun i => if i = ip then .bool q else if i ∈ b.idx then .undef else v i
      have hipb : ip ∉ b.idx := fun h => hn (List.mem_append_right _ h)
      have hipA : ip ∉ A := fun h => hn (List.mem_append_left _ h)
      have hz : Kj A v z := fun i hi => by
        have h1 : i ≠ ip := fun e => hipA (e ▸ hi)
        have h2 : i ∉ b.idx := fun h => (Nd hb i h).1 hi
        simp [z, h1, h2]
      have hzb : ∀ i ∈ b.idx, z i = .undef := fun i hi => by
        have h1 : i ≠ ip := fun e => hipb (e ▸ hi)
        simp [z, h1, hi]
      have hzp : z ip = .bool q := by simp [z]
      have hzj : z j = .bool (!w) := by
        rw [hz j hjA, hvj]; cases t <;> cases w <;> first | rfl | exact absurd rfl hw
      have hdead : ∀ i ∈ b.idx, Fact ops E call f0 z hh i := fun i hi => by
        obtain ⟨_, o, ho, h2⟩ := Nd hb i hi
        refine ⟨o, ho, .inr ⟨?_, hzb i hi⟩⟩
        rcases h2 with h2 | ⟨g', w', e, h3⟩
        · exact ⟨j, w, h2, .inr hzj⟩
        · refine ⟨g', w', e, .inl ?_⟩
          rcases h3 with h3 | h3
          · cases h3
          · exact hzb g' h3
      have hch : Ed t x y = Ed w y x := by cases t <;> cases w <;> first | rfl | exact absurd rfl hw
      have hpkf : Fact ops E call f0 z hh ip := by
        refine pick z (Ao (Yf b.Vo f) gd (.bool t)) hh q ?_ ?_ ?_ hzp (wantpk z hz)
        · rw [Hr, if_pos rfl]
        · intro s hs'
          rw [Hr]
          by_cases e : s = gd
          · rw [if_pos e]; right
            have : FA ops z f0 ip gd = .bool t := by
              rw [← Md wf dcb hop (Ns.2 hn) hr (e ▸ hs'), Nw hd hu (Df.2 (List.mem_append_left _ hjA)), hz j hjA, hvj]
            rw [e, this]
          · rw [if_neg e]
            rcases behind z hz s with h | h
            · exact .inl h
            · right; rw [h]; exact Md wf dcb hop (Ns.2 hn) hr hs'
        · rw [hch, hcv] at *
          exact hq
      have hall := cont z hh q hz hzp hrun
      rw [Mm, List.append_assoc]
      have hall' : Out ops E call f0 Kf (A ++ (b.idx ++ [ip])) (r.idx ++ rem) z hh := by rw [← List.append_assoc]; exact hall
      have hres := Out.pre wf (A := A) (L := b.idx ++ [ip]) hall' (fun i hi => ?_) hz (fun i hi => ?_)
      · rw [List.append_assoc] at hres
        exact hres
      · rcases List.mem_append.1 hi with hi | hi
        · exact hdead i hi
        · rw [List.mem_singleton.1 hi]; exact hpkf
      · intro j' hj'
        have hin : i ∈ A ++ (b.idx ++ [ip]) := List.mem_append_right _ hi
        rcases hj' with rfl | hj'
        · exact hin
        · have dcx : DC ops (asg (A ++ (b.idx ++ [ip]))) := by rw [← List.append_assoc]; exact dc'
          exact Df.1 (dcx.anc (Df.2 hin) hj')
end
end Go.Den
namespace Go.Den
open Go.RowKit
open Classical
section
variable{ops:Array Oper}{P:Program}{E:Env}{N G:Nat}{D:List Deferred}{call:CF}{f0:FT}{Kf:FT→H→Prop}
inductive Ayo (ops:Array Oper) (E:Env) (call:CF) (f0:FT) (Kf:FT→H→Prop) (A:List Nat) (v:Nat→AV) (hh:H):List Nat→Prop
 |fin {f':FT} (hs:Sub f' (FS ops v f0 (asg A) ops.size)) (hk:Kf f' hh):Ayo ops E call f0 Kf A v hh []
 |stop {B:List Nat} {e:Nat} {f':FT} {o:Oper} {rl:List Oper} {C:FT→H→Prop} (hs:Sub f' (FS ops v f0 (asg A) ops.size))
  (ho:ops[e]? =some o) (hw:Rq v o) (hn:e∉A) (hst:Ag1 ops E e rl A B) (hx:Ea E o.op call f' hh (fun u h'=>coK E o.type u (fun u=>Og E call rl (Den.Du f' o.dst u) h' (C (Den.Du f' o.dst u) h'))))
  (hg:Good ops E call f0 Kf A v (A++[e]) B C):Ayo ops E call f0 Kf A v hh (e::B)
inductive Aq5 (ops:Array Oper) (E:Env) (call:CF) (f0:FT) (Kf:FT→H→Prop) (A:List Nat) (v:Nat→AV) (hh:H):List Nat→Prop
 |tl {rem:List Nat} (h:Ayo ops E call f0 Kf A v hh rem):Aq5 ops E call f0 Kf A v hh rem
 |ghost {B:List Nat} {e:Nat} {f':FT} {o:Oper} {rl:List Oper} {C:FT→H→Prop} (hs:Sub f' (FS ops v f0 (asg A) ops.size))
  (ho:ops[e]? =some o) (hn:e∉A) (hst:Zh ops E o rl A) (hx:Ea E o.op call f' hh (fun u h'=>coK E o.type u (fun u=>Og E call rl (Den.Du f' o.dst u) h' (C (Den.Du f' o.dst u) h'))))
  (hg:Good ops E call f0 Kf A v (A++[e]) B C):Aq5 ops E call f0 Kf A v hh (e::B)
theorem Out.tail{A rem:List Nat}{v:Nat→AV}{hh:H}(h:Out ops E call f0 Kf A rem v hh):∃v' A1 rem',rem=A1++rem'∧Kj A v v'∧(∀i∈A1,Fact ops E call f0 v' hh i)∧Aq5 ops E call f0 Kf (A++A1) v' hh rem':=by
 cases h with
 |fin he hf hs hk=>exact⟨_,_,[],(List.append_nil _).symm,he,hf,.tl (.fin hs hk)⟩
 |stop he hf hs ho hw hn hst hx hg=>exact⟨_,_,_,rfl,he,hf,.tl (.stop hs ho hw hn hst hx hg)⟩
 |ghost he hf hs ho hn hst hx hg=>exact⟨_,_,_,rfl,he,hf,.ghost hs ho hn hst hx hg⟩
def Adz(P:Program)(ops:Array Oper)(E:Env)(call:CF)(f0:FT)(A:List Nat)(S:Nat→Bool)(gs:Nat→Option Go.Den.P)(v:Nat→AV)(h:H):Prop:=
 ∀i∈A,S i=false→(gs i=none∧Fact ops E call f0 v h i)∨∃p,gs i=some p∧Aq6 P ops E f0 v h i p
def Ay6(A:List Nat)(S:Nat→Bool)(h0 h:H)(μ:Mu)(gs:Nat→Option Go.Den.P):Prop:=
 (∀i p,gs i=some p→i∈A∧h0.next.nat≤p.nat∧p.nat<h.next.nat∧(S i=false→μ p=none))∧∀i j p,gs i=some p→gs j=some p→i=j
structure Inv(P:Program)(ops:Array Oper)(E:Env)(N G:Nat)(D:List Deferred)(call:CF)(f0:FT)(Kf:FT→H→Prop)(μ0:Mu)(h0:H)(w0:World)(pi:List Nat)(S:Nat→Bool)(a:Act)(w:World):Prop where
 ex:∃(A:List Nat)(v:Nat→AV)(h:H)(μ:Mu)(rem:List Nat)(gs:Nat→Option Go.Den.P),DC ops S∧(∀i,S i=true→i∈A)∧FR μ N D (FS ops v f0 S ops.size) a∧Sim μ h w∧Dc μ0 h0 w0 μ h w∧Hj μ G∧Adz P ops E call f0 A S gs v h∧Ay6 A S h0 h μ gs∧A++rem=pi∧Ayo ops E call f0 Kf A v h rem
theorem A4k{v v':Nat→AV}{A:List Nat}{S:Nat→Bool}(he:Kj A v v')(hs:∀i,S i=true→i∈A):FS ops v f0 S ops.size=FS ops v' f0 S ops.size:=by
 funext t
 exact Rr fun j _ _=>⟨rfl,fun h=>(he j (hs j h)).symm⟩
theorem Ajp{a b:Bool}(h:Ajq a b=true):a=b:=by cases a<;>cases b<;>first|rfl|cases h
theorem Avq{a b:Int}(h:Bx a b=true):a=b:=by
 cases a<;>cases b<;>first|(rw[Bo (show Nat.beq _ _=true from h)])|cases h
theorem Ro{r:AV→AV→Bool}(hr:∀x y,r x y=true→x=y):∀{xs ys:List AV},allEq r xs ys=true→xs=ys
 |[],[],_=>rfl
 |[],_::_,h=>by cases h
 |_::_,[],h=>by cases h
 |x::xs,y::ys,h=>by
  obtain⟨h1,h2⟩:=Al (show An (r x y) (allEq r xs ys)=true from h)
  rw[hr x y h1,Ro hr h2]
theorem A1d{x y:Fn}(h:A8u x y=true):x=y:=by
 cases x<;>cases y<;>simp only[A8u] at h<;>first|(rw[Bo h])|cases h
theorem A2j:∀(n:Nat)(x y:AV),Ajr n x y=true→x=y:=by
 intro n
 induction n with
 |zero=>intro x y h;cases h
 |succ n ih=>
  intro x y h
  have h:Ax8 (Ajr n) x y=true:=h
  cases x<;>cases y<;>simp only[Ax8] at h<;>try (cases h;done)
  · rw[Ajp h]
  · obtain⟨h1,h2⟩:=Al h;rw[Ap4 h1,Avq h2]
  · obtain⟨h1,h2⟩:=Al h;rw[Bo h1,Bo h2]
  · rfl
  · obtain⟨h1,h2⟩:=Al h;rw[P.beq_eq h1,Bo h2]
  · rfl
  · obtain⟨h1,h2⟩:=Al h
    obtain⟨h3,h4⟩:=Al h1
    obtain⟨h5,h6⟩:=Al h2
    obtain⟨h7,h8⟩:=Al h5
    rw[P.beq_eq h3,Bo h4,Bo h7,Bo h8,Ajp h6]
  · rfl
  · rw[P.beq_eq h]
  · obtain⟨h1,h2⟩:=Al h
    obtain⟨h2,h3⟩:=Al h2
    rw[A1d h1,Ro ih h2,Ro ih h3]
  · rfl
  · obtain⟨h1,h2⟩:=Al h;rw[Bo h1,ih _ _ h2]
  · rfl
  · rw[Ro ih h]
  · rw[Ro ih h]
theorem Tf:∀{rl:List Oper}{f:FT}{h:H}{A:Prop},(∀o∈rl,kindOf E o.op=0∨kindOf E o.op=1)→Og E call rl f h A→A∧∀o∈rl,(∀k:KV,k (Option.rec .undef f o.dst:AV) h→Ea E o.op call f h k)∧(kindOf E o.op=0→∀(h':H)(k:KV),k (Option.rec .undef f o.dst:AV) h'→Ea E o.op call f h' k)∧(Option.rec .undef f o.dst:AV)≠.top
 |[],_,_,_,_,hg=>⟨hg,fun _ h=>nomatch h⟩
 |o::rl,f,h,A,hk,hg=>by
  have hg:Ea E o.op call f h (fun v _=>coK E o.type v (fun v=>eqC v (Option.rec .undef f o.dst) (Og E call rl f h A))):=hg
  obtain⟨u,hu,h1,h2⟩:=Bi6 (hk o (by simp)) hg
  have hu:=Vt hu
  obtain⟨he,hu⟩:=Fq (show(Bool.rec As (Og E call rl f h A) (Ajr 4 u (Option.rec .undef f o.dst)):Prop) from hu)
  have e:=A2j 4 _ _ he
  obtain⟨ha,hl⟩:=Tf (fun o ho=>hk o (by simp[ho])) hu
  refine⟨ha,fun x hx=>?_⟩
  rcases List.mem_cons.1 hx with rfl|hx
  · rw[←e];exact⟨h1,h2,fun ht=>by rw[←e,ht] at he;cases he⟩
  · exact hl x hx
theorem Ac1{A:List Nat}(dcA:DC ops (asg A)){i:Nat}{o:Oper}{f':FT}{v:Nat→AV}{u:AV}{h h':H}(hs:Sub f' (FS ops v f0 (asg A) ops.size))(ho:ops[i]? =some o)(hiA:i∉A){rl:List Oper}
 (hrl:∀o'∈rl,(∀k:KV,k (Option.rec .undef (Den.Du f' o.dst u) o'.dst:AV) h'→Ea E o'.op call (Den.Du f' o.dst u) h' k)∧(kindOf E o'.op=0→∀(h'':H)(k:KV),k (Option.rec .undef (Den.Du f' o.dst u) o'.dst:AV) h''→Ea E o'.op call (Den.Du f' o.dst u) h'' k)∧(Option.rec .undef (Den.Du f' o.dst u) o'.dst:AV)≠.top)
 {l:Nat} {ol:Oper} (hl:l∈A) (hol:ops[l]? =some ol) (hfl:(Rq v ol∧Did ops E call f0 v h l ol)∨(Ajz v ol∧v l=.undef))
 (hlook:kindOf E ol.op=1→ol∈rl∧(∃d,ol.dst=some d∧∀j,Ei ops j=some d→j=l)∧∀t∈ol.looksAt ops,∀j,Ei ops j=some t→Anc ops l j):Fact ops E call f0 v h' l:=by
 have hli:l≠i:=fun e=>hiA (e▸hl)
 refine⟨ol,hol,?_⟩
 rcases hfl with⟨hwl,⟨fi,h1,h2,h3,h4⟩⟩|hfl
 · by_cases hk0:kindOf E ol.op=0
   · exact .inl ⟨hwl,⟨fi,h1,h2,h4 hk0 h',h4⟩⟩
   · have hk1:kindOf E ol.op=1:=by omega
     obtain⟨hmem,⟨d,hd,hud⟩,hwr⟩:=hlook hk1
     obtain⟨r1,r2,r3⟩:=hrl ol hmem
     rw[hd] at r1 r2 r3
     have r1:∀k:KV,k (Den.Du f' o.dst u d) h'→Ea E ol.op call (Den.Du f' o.dst u) h' k:=r1
     have r2:kindOf E ol.op=0→∀(h'':H)(k:KV),k (Den.Du f' o.dst u d) h''→Ea E ol.op call (Den.Du f' o.dst u) h'' k:=r2
     have r3:Den.Du f' o.dst u d≠.top:=r3
     have hdl:Ei ops l=some d:=by unfold Ei;rw[hol];exact hd
     have hne:o.dst≠some d:=fun e=>hli (hud i (by unfold Ei;rw[ho];exact e)).symm
     have hval:(Den.Du f' o.dst u) d=.top∨(Den.Du f' o.dst u) d=v l:=by
      rw[Jd,if_neg hne]
      rcases hs d with h|h
      · exact .inl h
      · right;rw[h];exact Nw hdl hud (Df.2 hl)
     have hvl:(Den.Du f' o.dst u) d=v l:=by
      rcases hval with h|h
      · exact absurd h r3
      · exact h
     rw[hvl] at r1 r2
     refine .inl ⟨hwl,⟨Den.Du f' o.dst u,fun t ht=>?_,by omega,r1,r2⟩⟩
     have hne2:o.dst≠some t:=fun e=>by
      have:=(hwr t ht i (by unfold Ei;rw[ho];exact e))
      have:=Df.1 (dcA.anc (Df.2 hl) this)
      exact hiA this
     rw[Jd,if_neg hne2]
     rcases hs t with h|h
     · exact .inl h
     · right;rw[h]
       refine Rr fun j hj hdj=>⟨?_,fun _=>rfl⟩
       have hj':=hwr t ht j hdj
       show asg A j=decide (Anc ops l j)
       rw[decide_eq_true hj',Df]
       exact Df.1 (dcA.anc (Df.2 hl) hj')
 · exact .inr hfl
theorem Xv{listed:Array Bool}{i:Nat}(hi:i<listed.size):(fun j=>(listed.setIfInBounds i true).getD j false)=upd (fun j=>listed.getD j false) i true:=by
 funext j
 simp only[upd,Array.getD_eq_getD_getElem?,Array.getElem?_setIfInBounds]
 by_cases e:j=i
 · subst e;simp[hi]
 · rw[if_neg e,if_neg (fun h=>e h.symm)]
theorem Ar4{S:Nat→Bool}{i:Nat}(hi:S i=false):∀n,i<n→(List.range n).countP (fun j=>!upd S i true j)+1=(List.range n).countP (fun j=>!S j):=by
 intro n
 induction n with
 |zero=>intro h;omega
 |succ n ih=>
  intro h
  rw[List.range_succ,List.countP_append,List.countP_append]
  by_cases e:i=n
  · subst e
    have:(List.range i).countP (fun j=>!upd S i true j)=(List.range i).countP (fun j=>!S j):=by
     refine List.countP_congr fun j hj=>?_
     have:j≠i:=by have:=List.mem_range.1 hj;omega
     simp[upd,this]
    rw[this]
    simp[upd,hi]
  · have:=ih (by omega)
    have hne:n≠i:=fun h=>e h.symm
    have h2:List.countP (fun j=>!upd S i true j) [n]=List.countP (fun j=>!S j) [n]:=by simp[upd,hne]
    rw[h2];omega
section
variable(wf:Wf P E N G ops)(ok:Cg P E)(hcall:Fb P (CP E) G (fun p=>p) call){Q:Exit→Act→World→Prop}{μ0:Mu}{h0:H}{w0:World}
 {pi:List Nat} (hpi:∀A i B,pi=A++i::B→Rdy ops (asg A) i) (hall:∀i,i<ops.size→i∈pi)
 (hQ:∀μ f h a w,FR μ N D f a→Sim μ h w→Dc μ0 h0 w0 μ h w→Hj μ G→Kf f h→Q .normal a w)
include hpi in
theorem Awv:∀(A B:List Nat),pi=A++B→DC ops (asg A):=by
 intro A
 induction h:A.length generalizing A with
 |zero=>intro B _;rw[List.length_eq_zero_iff.1 h];intro i o e hi;simp[asg] at hi
 |succ n ih=>
  intro B hB
  rcases List.eq_nil_or_concat A with rfl|⟨A',i,rfl⟩
  · cases h
  · rw[List.concat_eq_append] at hB h ⊢
    have hB':pi=A'++i::B:=by rw[hB];simp
    rw[Ki]
    exact(ih A' (by simpa using h) (i::B) hB').insert (hpi A' i B hB')
omit hall hcall hQ in
include wf ok hpi in
theorem settle:∀(n:Nat){A rem:List Nat}{v:Nat→AV}{h:H}{μ:Mu}{w:World}{S:Nat→Bool}{gs:Nat→Option Go.Den.P},rem.length≤n→A++rem=pi→(∀i,S i=true→i∈A)→Adz P ops E call f0 A S gs v h→Ay6 A S h0 h μ gs→Sim μ h w→Dc μ0 h0 w0 μ h w→Aq5 ops E call f0 Kf A v h rem→
 ∃A' v' h' rem' gs',A'++rem'=pi∧(∀i∈A,i∈A')∧Kj A v v'∧Adz P ops E call f0 A' S gs' v' h'∧Ay6 A' S h0 h' μ gs'∧Sim μ h' w∧Dc μ0 h0 w0 μ h' w∧Ayo ops E call f0 Kf A' v' h' rem':=by
 intro n
 induction n with
 |zero=>
  intro A rem v h μ w S gs hle all sub facts gok s x tl
  cases tl with
  |tl tl=>exact⟨A,v,h,rem,gs,all,fun _ h=>h,.refl _ _,facts,gok,s,x,tl⟩
  |ghost=>simp at hle
 |succ n ih=>
  intro A rem v h μ w S gs hle all sub facts gok s x tl
  cases tl with
  |tl tl=>exact⟨A,v,h,rem,gs,all,fun _ h=>h,.refl _ _,facts,gok,s,x,tl⟩
  |ghost hs ho hn hst hx hg=>
   rename_i B e f' o rl C
   have dcA:=Awv hpi A _ all.symm
   have hrA:Rdy ops (asg A) e:=hpi A e B all.symm
   have hview:=hs.view wf dcA ho hn hrA
   obtain⟨u,ob,hk,hfr⟩:=Avy ok hst.fresh hx
   have hk:=Vt hk
   obtain⟨hC,hrl⟩:=Tf hst.kinds hk
   have hext:Kj A v (upd v e (u h.next)):=Oc hn
   have hsub':=hs.snoc wf dcA ho hn (u h.next)
   have dcA':DC ops (asg (A++[e])):=by rw[Ki];exact dcA.insert hrA
   cases hg with
   |mk hg=>
    obtain⟨v2,A1,rem',e1,he2,hf2,tl2⟩:=(hg _ _ _ hext hsub' hC).tail
    have hextA:Kj A v v2:=hext.trans he2 fun j hj=>List.mem_append_left _ hj
    have hv2e:v2 e=u h.next:=by rw[he2 e (by simp)];simp[upd]
    have hagree:∀l∈A,∀j,j=l∨Anc ops l j→v j=v2 j:=fun l hl j hj=>by
     have hjA:j∈A:=by
      rcases hj with rfl|hj
      · exact hl
      · exact Df.1 (dcA.anc (Df.2 hl) hj)
     exact(hextA j hjA).symm
    have hsucc:(h.new ob).next.nat=h.next.nat+1:=Go.Den.P.Dx _
    have gsn:∀j,j≠e→upd gs e (some h.next) j=gs j:=fun j hj=>by simp[upd,hj]
    have hSe:S e=false:=by
     cases hh:S e with
     |false=>rfl
     |true=>exact absurd (sub e hh) hn
    have facts2:Adz P ops E call f0 (A++[e]++A1) S (upd gs e (some h.next)) v2 (h.new ob):=by
     intro l hl hsl
     by_cases hle:l=e
     · subst hle
       refine .inr ⟨h.next,by simp[upd],o,f',u,ob,ho,hst.fresh,hst.guard,fun t ht=>?_,hfr,hv2e,by rw[Fs,if_pos rfl]⟩
       rw[←Nx (v:=v) fun j hj=>(hextA j (Df.1 (hrA.anc dcA hj))).symm]
       exact hview t ht
     · rw[gsn l hle]
       by_cases hlA:l∈A
       · rcases facts l hlA hsl with⟨hg0,ol,hol,hfl⟩|⟨p,hp,hgh⟩
         · exact .inl ⟨hg0,Fact.congr wf (hagree l hlA) (Ac1 dcA hs ho hn hrl hlA hol hfl (hst.look l ol hlA hol))⟩
         · refine .inr ⟨p,hp,hgh.congr (hagree l hlA) ?_⟩
           have:=(gok.1 l p hp).2.2.1
           rw[Fs,if_neg (fun e=>by rw[e] at this;omega)]
       · refine .inl ⟨?_,hf2 l ?_⟩
         · cases hgl:gs l with
           |none=>rfl
           |some p=>exact absurd (gok.1 l p hgl).1 hlA
         · rcases List.mem_append.1 hl with hl|hl
           · rcases List.mem_append.1 hl with hl|hl
             · exact absurd hl hlA
             · exact absurd (List.mem_singleton.1 hl) hle
           · exact hl
    have gok2:Ay6 (A++[e]++A1) S h0 (h.new ob) μ (upd gs e (some h.next)):=by
     refine⟨fun j p hj=>?_,fun j k p hj hk=>?_⟩
     · by_cases hje:j=e
       · subst hje
         have:some h.next=some p:=by simpa[upd] using hj
         cases this
         exact⟨by simp,x.ghost.1,by omega,fun _=>s.none (Nat.le_refl _)⟩
       · rw[gsn j hje] at hj
         obtain⟨a1,a2,a3,a4⟩:=gok.1 j p hj
         exact⟨by simp[a1],a2,by omega,a4⟩
     · have key:∀j,j≠e→gs j=some h.next→False:=fun j _ hj=>by
        have:=(gok.1 j _ hj).2.2.1;omega
       by_cases hje:j=e
       · by_cases hke:k=e
         · rw[hje,hke]
         · rw[gsn k hke] at hk
           rw[hje] at hj
           have:some h.next=some p:=by simpa[upd] using hj
           cases this
           exact(key k hke hk).elim
       · by_cases hke:k=e
         · rw[gsn j hje] at hj
           rw[hke] at hk
           have:some h.next=some p:=by simpa[upd] using hk
           cases this
           exact(key j hje hj).elim
         · rw[gsn j hje] at hj;rw[gsn k hke] at hk;exact gok.2 j k p hj hk
    have all2:A++[e]++A1++rem'=pi:=by rw[←all,e1];simp
    obtain⟨A',v',h',rem'',gs',c1,c2,c3,c4,c5,c6,c7,c8⟩:=ih (by rw[e1] at hle;simp at hle;omega) all2 (fun j hj=>by simp[sub j hj]) facts2 gok2 (s.ghost ob) (x.A09 s ob) tl2
    exact⟨A',v',h',rem'',gs',c1,fun j hj=>c2 j (by simp[hj]),hextA.trans c3 fun j hj=>by simp[hj],c4,c5,c6,c7,c8⟩
include wf ok hcall hQ hpi hall
theorem A05{S:Nat→Bool}{a:Act}{w:World}(inv:Inv P ops E N G D call f0 Kf μ0 h0 w0 pi S a w)(hallS:∀i,i<ops.size→S i=true):Q .normal a w:=by
 have _u1:=wf
 have _u2:=ok
 have _u3:=hcall
 have _u4:=hpi
 have _u5:=hall
 obtain⟨A,v,h,μ,rem,gs,dcS,sub,fr,s,x,gl,_,_,_,tl⟩:=inv.ex
 cases tl with
 |stop hs ho hw hn hst hx hg=>
  have:=sub _ (hallS _ (Array.getElem?_eq_some_iff.1 ho).1)
  exact absurd this hn
 |fin hs hk=>
  refine hQ μ _ h a w ⟨fr.size,fun t=>?_,fr.defs⟩ s x gl hk
  rcases hs t with h|h
  · rw[h];trivial
  · have e:FS ops v f0 (asg A) ops.size t=FS ops v f0 S ops.size t:=Rr fun j hj _=>⟨by rw[hallS j hj,Df.2 (sub j (hallS j hj))],fun _=>rfl⟩
    rw[h,e];exact fr.get t
theorem Avl{ro:Option Nat}{S:Nat→Bool}{a:Act}{w:World}(inv:Inv P ops E N G D call f0 Kf μ0 h0 w0 pi S a w){i:Nat}(hlt:i<ops.size)(hi:S i=false)(hr:Rdy ops S i){next:Act→World→Prop}
 (hn:∀a' w',Inv P ops E N G D call f0 Kf μ0 h0 w0 pi (upd S i true) a' w'→next a' w'):wpOpIn (Fo ro) 0 P ops Q i next a w:=by
 have _u1:=hQ
 obtain⟨A,v,h,μ,rem,gs,dcS,sub,fr,s,x,gl,facts,gok,all,tl⟩:=inv.ex
 have dcA:=Awv hpi A rem all.symm
 have dcS':DC ops (upd S i true):=dcS.insert hr
 by_cases hiA:i∈A
 · have subA:∀j,upd S i true j=true→j∈A:=fun j hj=>by
    by_cases e:j=i
    · rw[e];exact hiA
    · exact sub j (by simpa[upd,e] using hj)
   have unS:∀j,upd S i true j=false→j≠i∧S j=false:=fun j hs=>by
    have e:j≠i:=fun e=>by simp[upd,e] at hs
    exact⟨e,by simpa[upd,e] using hs⟩
   have facts':Adz P ops E call f0 A (upd S i true) gs v h:=fun j hj hs=>facts j hj (unS j hs).2
   rcases facts i hiA hi with⟨_,hfact⟩|⟨p,hp,hgh⟩
   · refine Bal wf ok hcall hfact dcS hi hr fr s gl fun μ' a' w' fr' s' x'=>hn a' w' ⟨A,v,h,μ',rem,gs,dcS',subA,fr',s',x.trans x',gl.mono x'.le,facts',⟨fun j q hj=>?_,gok.2⟩,all,tl⟩
     obtain⟨a1,a2,a3,a4⟩:=gok.1 j q hj
     exact⟨a1,a2,a3,fun hs=>(x'.ghost.2 q a3 (a4 (unS j hs).2)).1⟩
   · obtain⟨o,fi,u,ob,ho,hfr,hgd,hfi,hfo,hvi,hat⟩:=hgh.ex
     obtain⟨_,hp0,hpn,hpm⟩:=gok.1 i p hp
     have hpm:=hpm hi
     have hok:=wf.ok o (Array.mem_of_getElem? ho)
     simp only[Hx,Bool.and_eq_true] at hok
     have hopn:∀x∈o.op.operands.toList,Eu G x=true:=by
      have hop:=hok.2
      simp only[Aag,Bool.and_eq_true] at hop
      exact fun x hx=>(List.all_eq_true.1 hop.1) x hx
     obtain⟨sem,he,hfresh⟩:=hfo (μ:=μ) (a:=a) fun x hx=>by
      refine Zb (C:=CP E) gl (hopn x hx) fun t ht=>?_
      subst ht
      have htl:t∈o.looksAt ops:=List.mem_append_left _ (List.mem_filterMap.2 ⟨.tmp t,hx,rfl⟩)
      show VR μ (fi t) (a.tmps.getD t undef)
      rcases hfi t htl with h|h
      · rw[h];trivial
      · rw[h,←Md wf dcS ho hi hr htl];exact fr.get t
     obtain⟨val,obj,sz,hrun,hh⟩:=hfresh w
     obtain⟨hle,s'⟩:=s.fill hpn hpm (fun μ' hle=>by rw[hat];exact(hh μ' hle).1)
     have x':=x.fill hp0 hpm obj sz
     have hself:upd v i (v i)=v:=by funext j;simp only[upd];split<;>simp_all
     have hput:=Ag6 (v:=v) (f0:=f0) wf dcS ho hi (a:=v i)
     rw[hself] at hput
     unfold wpOpIn
     rw[ho]
     simp only
     rw[if_pos (by unfold Region.wanted;rw[hgd])]
     refine Iu (fun c hc=>by rw[hc] at hfr;cases hfr) ?_
     rw[he o rfl,Aa hrun]
     refine hn _ _ ⟨A,v,h,_,rem,gs,dcS',subA,?_,s',x',gl.mono hle,facts',⟨fun j q hj=>?_,gok.2⟩,all,tl⟩
     · rw[hput]
       refine(fr.mono hle).put hok.1 ?_
       rw[hvi]
       exact(hh _ hle).2 p (Mu.Cq _ _ _)
     · obtain⟨a1,a2,a3,a4⟩:=gok.1 j q hj
       refine⟨a1,a2,a3,fun hs=>?_⟩
       obtain⟨hji,hsj⟩:=unS j hs
       rw[Mu.Cf _ _ (fun e=>hji (gok.2 j i p (by rw[←e];exact hj) hp))]
       exact a4 hsj
 · have hrem:i∈rem:=by
    rcases List.mem_append.1 (all▸hall i hlt) with h|h
    · exact absurd h hiA
    · exact h
   cases tl with
   |fin=>cases hrem
   |stop hs ho hw hnA hst hx hg=>
    rename_i B e f' o rl C
    have hie:i=e:=by
     rcases List.mem_cons.1 hrem with h|h
     · exact h
     · have:=sub e (hr.anc dcS (hst.later i h))
       exact absurd this hnA
    subst hie
    have hok:=wf.ok o (Array.mem_of_getElem? ho)
    simp only[Hx,Bool.and_eq_true] at hok
    have hrA:Rdy ops (asg A) i:=fun o' e' h1 h2 h3=>Df.2 (sub _ (hr o' e' h1 h2 h3))
    have hview:=hs.view wf dcA ho hiA hrA
    have hlookS:∀t∈o.looksAt ops,f' t=.top∨f' t=FS ops v f0 S ops.size t:=fun t ht=>by
     rcases hview t ht with h|h
     · exact .inl h
     · right;rw[h];exact(Md wf dcS ho hi hr ht).symm
    have hwant:Region.wanted o (yielded ops a.tmps)=true:=by
     unfold Region.wanted
     cases hgd:o.guard with
     |none=>rfl
     |some p=>
      obtain⟨g,w'⟩:=p
      obtain⟨hga,gd,hd,hu⟩:=wf.guard i o g w' ho hgd
      have hv:=fr.get gd
      rw[Nw hd hu (hr.anc dcS hga),hw g w' hgd] at hv
      have hv:a.tmps.getD gd undef=.bool w':=hv
      have hltg:gd<a.tmps.size:=by
       obtain⟨og,hog,hdg⟩:=Mp hd
       have:=wf.ok og (Array.mem_of_getElem? hog)
       simp only[Hx,Bool.and_eq_true] at this
       rw[hdg] at this
       exact Nat.lt_of_lt_of_le (by simpa[Px] using this.1) fr.size
      show(yielded ops a.tmps g==some w')=true
      rw[Jl,show((ops[g]?).bind (·.dst))=some gd from hd]
      show(yb (a.tmps[gd]?)==some w')=true
      have:a.tmps[gd]? =some (.bool w'):=by
       rw[Array.getD_eq_getD_getElem?,Array.getElem?_eq_getElem hltg] at hv
       rw[Array.getElem?_eq_getElem hltg]
       exact congrArg some hv
      rw[this];simp[yb]
    unfold wpOpIn
    rw[ho]
    simp only
    rw[if_pos hwant]
    have hopn:∀x∈o.op.operands.toList,Eu G x=true:=by
     have hop:=hok.2
     simp only[Aag,Bool.and_eq_true] at hop
     exact fun x hx=>(List.all_eq_true.1 hop.1) x hx
    refine Af7 (C:=CP E) (good:=fun p=>p) (fun h=>h) ok hcall hok.2 (fun x hx=>?_) s gl (Aa8 hx) ?_
    · refine Zb (C:=CP E) gl (hopn x hx) fun t ht=>?_
      subst ht
      have htl:t∈o.looksAt ops:=List.mem_append_left _ (List.mem_filterMap.2 ⟨.tmp t,hx,rfl⟩)
      show VR μ (f' t) (a.tmps.getD t undef)
      rcases hlookS t htl with h|h
      · rw[h];trivial
      · rw[h];exact fr.get t
    · intro μ' u h' val w' s' x' hv hk
      have hk:=Vt hk
      obtain⟨hC,hrl⟩:=Tf hst.kinds hk
      have hext:Kj A v (upd v i u):=Oc hiA
      have hsub':=hs.snoc wf dcA ho hiA u
      have dcA':DC ops (asg (A++[i])):=by rw[Ki];exact dcA.insert hrA
      cases hg with
      |mk hg=>
       obtain⟨v2,A1,rem',e1,he2,hf2,tl2⟩:=(hg _ _ _ hext hsub' hC).tail
       have hextA:Kj A v v2:=hext.trans he2 fun j hj=>List.mem_append_left _ hj
       have hv2i:v2 i=u:=by rw[he2 i (by simp)];simp[upd]
       have subS:∀j,upd S i true j=true→j∈A++[i]:=fun j hj=>by
        by_cases e:j=i
        · rw[e];simp
        · exact List.mem_append_left _ (sub j (by simpa[upd,e] using hj))
       have hFS:FS ops v2 f0 (upd S i true) ops.size=Den.Du (FS ops v f0 S ops.size) o.dst u:=by
        rw[←A4k he2 subS,Ag6 wf dcS ho hi]
       have hagree:∀l∈A,∀j,j=l∨Anc ops l j→v j=v2 j:=fun l hl j hj=>by
        have hjA:j∈A:=by
         rcases hj with rfl|hj
         · exact hl
         · exact Df.1 (dcA.anc (Df.2 hl) hj)
        exact(hextA j hjA).symm
       have gsi:∀j,j∉A→gs j=none:=fun j hj=>by
        cases hgj:gs j with
        |none=>rfl
        |some p=>exact absurd (gok.1 j p hgj).1 hj
       have unS:∀j,upd S i true j=false→j≠i∧S j=false:=fun j hs=>by
        have e:j≠i:=fun e=>by simp[upd,e] at hs
        exact⟨e,by simpa[upd,e] using hs⟩
       -- what was done ahead still holds of the new memory
       have facts2:Adz P ops E call f0 (A++[i]++A1) (upd S i true) gs v2 h':=by
        intro l hl hsl
        obtain⟨hli,hsl⟩:=unS l hsl
        by_cases hlA:l∈A
        · have hanc:¬Anc ops i l:=fun h=>by rw[hr.anc dcS h] at hsl;cases hsl
          rcases facts l hlA hsl with⟨hg0,ol,hol,hfl⟩|⟨p,hp,hgh⟩
          · refine .inl ⟨hg0,Fact.congr wf (hagree l hlA) (Ac1 dcA hs ho hiA hrl hlA hol hfl fun hk1=>?_)⟩
            rcases hst.look l ol hlA hol hk1 with h|hmem
            · exact absurd h hanc
            · rcases hst.rl l ol hlA hol hk1 with h|hh
              · exact absurd h hanc
              · exact⟨hmem,hh⟩
          · obtain⟨_,_,a3,a4⟩:=gok.1 l p hp
            exact .inr ⟨p,hp,hgh.congr (hagree l hlA) (x'.ghost.2 p a3 (a4 hsl)).2⟩
        · refine .inl ⟨gsi l hlA,hf2 l ?_⟩
          rcases List.mem_append.1 hl with hl|hl
          · rcases List.mem_append.1 hl with hl|hl
            · exact absurd hl hlA
            · exact absurd (List.mem_singleton.1 hl) hli
          · exact hl
       have gok2:Ay6 (A++[i]++A1) (upd S i true) h0 h' μ' gs:=by
        refine⟨fun j p hj=>?_,gok.2⟩
        obtain⟨a1,a2,a3,a4⟩:=gok.1 j p hj
        exact⟨by simp[a1],a2,Nat.lt_of_lt_of_le a3 x'.ghost.1,fun hs=>(x'.ghost.2 p a3 (a4 (unS j hs).2)).1⟩
       obtain⟨A',v',hh',rem'',gs',c1,c2,c3,c4,c5,c6,c7,c8⟩:=settle wf ok hpi rem'.length (Nat.le_refl _) (by rw[←all,e1];simp) (fun j hj=>List.mem_append_left _ (subS j hj)) facts2 gok2 s' (x.trans x') tl2
       refine hn _ w' ⟨A',v',hh',μ',rem'',gs',dcS',fun j hj=>c2 j (List.mem_append_left _ (subS j hj)),?_,c6,c7,gl.mono x'.le,c4,c5,c1,c8⟩
       rw[←A4k c3 (fun j hj=>List.mem_append_left _ (subS j hj)),hFS]
       exact(fr.mono x'.le).put hok.1 hv
theorem Bbk{ro:Option Nat}:∀(fuel:Nat)(listed:Array Bool)(a:Act)(w:World),listed.size=ops.size→(List.range ops.size).countP (fun j=>!listed.getD j false)≤fuel→Inv P ops E N G D call f0 Kf μ0 h0 w0 pi (fun j=>listed.getD j false) a w→wpAnyIn (Fo ro) 0 P .any ops Q fuel listed a w:=by
 have fin:∀(listed:Array Bool)(a:Act)(w:World),listed.size=ops.size→Inv P ops E N G D call f0 Kf μ0 h0 w0 pi (fun j=>listed.getD j false) a w→Region.ready .any ops listed=[]→Q .normal a w:=by
  intro listed a w hsz inv hr
  refine A05 wf ok hcall hpi hall hQ inv fun i hi=>?_
  -- the least one that was not done would be ready
  have key:∀n,∀i,i<n→i<ops.size→listed.getD i false=true:=by
   intro n
   induction n with
   |zero=>intro i h;omega
   |succ n ih=>
    intro i h hlt
    cases hl:listed.getD i false with
    |true=>rfl
    |false=>
     exfalso
     have hmem:i∈Region.ready .any ops listed:=by
      rw[mem_ready]
      refine⟨?_,ops[i],Array.getElem?_eq_getElem hlt,fun e he hb=>?_⟩
      · rw[Array.getD_eq_getD_getElem?,Array.getElem?_eq_getElem (by omega)] at hl ⊢;exact hl
      · have hlt':=wf.lt i _ e (Array.getElem?_eq_getElem hlt) he hb
        exact ih e.on (by omega) (by omega)
     rw[hr] at hmem;cases hmem
  exact key (i+1) i (by omega) hi
 intro fuel
 induction fuel with
 |zero=>
  intro listed a w hsz hc inv
  have hall:∀i,i<ops.size→listed.getD i false=true:=fun i hi=>by
   have h0:(List.range ops.size).countP (fun j=>!listed.getD j false)=0:=by omega
   have:=List.countP_eq_zero.1 h0 i (List.mem_range.2 hi)
   simpa using this
  have hr:Region.ready .any ops listed=[]:=by
   rw[List.eq_nil_iff_forall_not_mem]
   intro j hj
   obtain⟨h1,o,ho,_⟩:=mem_ready.1 hj
   have hlt:=(Array.getElem?_eq_some_iff.1 ho).1
   have:=hall j hlt
   rw[Array.getD_eq_getD_getElem?,Array.getElem?_eq_getElem (by omega)] at h1 this
   rw[show(some (listed[j]'(by omega))).getD true=(some (listed[j]'(by omega))).getD false from rfl,this] at h1
   cases h1
  exact⟨hr,fin listed a w hsz inv hr⟩
 |succ fuel ih=>
  intro listed a w hsz hc inv
  refine⟨fin listed a w hsz inv,fun i hi=>?_⟩
  obtain⟨h1,o,ho,hdeps⟩:=mem_ready.1 hi
  have hlt:=(Array.getElem?_eq_some_iff.1 ho).1
  have hS:listed.getD i false=false:=by
   rw[Array.getD_eq_getD_getElem?,Array.getElem?_eq_getElem (by omega)] at h1 ⊢;exact h1
  refine Avl wf ok hcall hpi hall hQ inv hlt hS (fun o' e h1 h2 h3=>by rw[ho] at h1;cases h1;exact hdeps e h2 h3) fun a' w' inv'=>?_
  refine ih _ a' w' (by simp[hsz]) ?_ ?_
  · have e:(fun j=>!(listed.setIfInBounds i true).getD j false)=fun j=>!upd (fun j=>listed.getD j false) i true j:=by
     have:=Xv (listed:=listed) (i:=i) (by omega)
     funext j
     rw[←congrFun this j]
    rw[e]
    have:=Ar4 (S:=fun j=>listed.getD j false) hS ops.size hlt
    omega
  · rw[Xv (by omega)];exact inv'
end
end
end Go.Den
namespace Go.Den
open Go.RowKit
open Classical
def fB(n:Nat)(K:Nat→Bool):Bool:=Nat.rec false (fun m _=>K m) (Nat.succ n)
def fL(l:List Nat):(List Nat→Bool)→Bool:=List.rec (motive:=fun _=>(List Nat→Bool)→Bool) (fun K=>K []) (fun x _ ih K=>fB x (fun x=>ih (fun l=>K (x::l)))) l
theorem Av4:∀(l:List Nat)(K:List Nat→Bool),fL l K=K l
 |[],_=>rfl
 |x::l,K=>Av4 l (fun l=>K (x::l))
def Oo(i:Nat)(l:List Nat):Bool:=List.rec false (fun x _ ih=>Bool.rec ih true (Nat.beq x i)) l
theorem Jb{i:Nat}:∀{l:List Nat},Oo i l=true↔i∈l
 |[]=>by simp[Oo]
 |x::l=>by
  have ih:=Jb (i:=i) (l:=l)
  show(Bool.rec (Oo i l) true (Nat.beq x i):Bool)=true↔_
  cases h:Nat.beq x i with
  |true=>simp[Bo h]
  |false=>
   have hne:x≠i:=fun e=>by rw[e,Nat.beq_refl] at h;cases h
   rw[List.mem_cons,←ih]
   exact⟨.inr,fun h=>h.resolve_left (fun e=>hne e.symm)⟩
def Sp{α:Type}(p:α→Bool)(l:List α):Bool:=List.rec true (fun x _ ih=>Bool.rec false ih (p x)) l
theorem Gc{α:Type}{p:α→Bool}:∀{l:List α},Sp p l=true↔∀x∈l,p x=true
 |[]=>by simp[Sp]
 |x::l=>by
  have ih:=Gc (p:=p) (l:=l)
  show(Bool.rec false (Sp p l) (p x):Bool)=true↔_
  cases h:p x with
  |true=>simp[h,ih]
  |false=>simp[h]
theorem Kh(m i:Nat):bit m i=Nat.testBit m i:=by
 unfold bit
 rw[Nat.testBit_eq_decide_div_mod_eq,Gt]
 show decide ((m >>> i)%2=1)=_
 rw[Nat.shiftRight_eq_div_pow]
def Apq(l:List Nat):Nat:=List.rec 0 (fun t _ ih=>Nat.lor (Nat.shiftLeft 1 t) ih) l
theorem Ac9(t i:Nat):Nat.testBit (Nat.shiftLeft 1 t) i=decide (t=i):=by
 show Nat.testBit (1 <<< t) i=_
 rw[Nat.shiftLeft_eq,Nat.one_mul,Nat.testBit_two_pow]
theorem Ada{i:Nat}:∀{l:List Nat},bit (Apq l) i=true↔i∈l
 |[]=>by rw[Kh];show Nat.testBit 0 i=true↔_;simp
 |t::l=>by
  have ih:=Ada (i:=i) (l:=l)
  rw[Kh] at ih ⊢
  show Nat.testBit (Nat.shiftLeft 1 t|||Apq l) i=true↔_
  rw[Nat.testBit_or,Ac9,Bool.or_eq_true,ih]
  simp only[decide_eq_true_eq,List.mem_cons]
  exact⟨fun h=>h.imp Eq.symm id,fun h=>h.imp Eq.symm id⟩
section
variable(P:Program)(E:Env)(N G:Nat)(ops:List Oper)(ms ls:List Nat)
def gN(l:List Nat)(i:Nat):Nat:=Option.rec 0 (fun m=>m) (Ej l i)
def Aci(o:Oper)(d:Nat):Bool:=Option.rec false (fun e=>Nat.beq e d) o.dst
def Agy(x y:Oper)(lx ly:Nat):Bool:=An (Option.rec true (fun d=>An (Ci (bit ly d)) (Ci (Aci y d))) x.dst) (Option.rec true (fun d=>Ci (bit lx d)) y.dst)
def Apd(i:Nat)(x:Oper)(j:Nat)(y:Oper):Bool:=Bool.rec (Bool.rec (Agy x y (gN ls i) (gN ls j)) true (bit (gN ms j) i)) true (bit (gN ms i) j)
def Afh(i:Nat)(x:Oper)(l:List Oper):Nat→Bool:=List.rec (motive:=fun _=>Nat→Bool) (fun _=>true) (fun y _ ih j=>An (Apd ms ls i x j y) (ih (Nat.add j 1))) l
def Wa(l:List Oper):Nat→Bool:=List.rec (motive:=fun _=>Nat→Bool) (fun _=>true) (fun x r ih i=>An (Afh ms ls i x r (Nat.add i 1)) (ih (Nat.add i 1))) l
def Agg(i:Nat)(o:Oper):Bool:=Sp (fun e=>Bool.rec true (Nat.ble (Nat.add e.on 1) i) (Region.binds .any e)) o.after.toList
def Ur(d g:Nat)(l:List Oper):Nat→Bool:=List.rec (motive:=fun _=>Nat→Bool) (fun _=>true) (fun y _ ih j=>An (Bool.rec true (Nat.beq j g) (Aci y d)) (ih (Nat.add j 1))) l
def Afw(o:Oper):Bool:=Option.rec true (fun p=>An (Ci (Sp (fun e=>Ci (An (Region.binds .any e) (Nat.beq e.on p.1))) o.after.toList)) (Option.rec false (fun og=>Option.rec false (fun d=>Ur d p.1 ops 0) og.dst) (Ej ops p.1))) o.guard
def Aqh(l:List Oper):Nat→Bool:=List.rec (motive:=fun _=>Nat→Bool) (fun _=>true) (fun o _ ih i=>An (An (Hx P E N G o) (An (Agg i o) (Afw ops o))) (ih (Nat.add i 1))) l
def Atq(o:Oper)(A:List Nat):Bool:=Sp (fun e=>Bool.rec true (Oo e.on A) (Region.binds .any e)) o.after.toList
def Zj(m t:Nat)(l:List Oper):Nat→Bool:=List.rec (motive:=fun _=>Nat→Bool) (fun _=>true) (fun y _ ih j=>An (Bool.rec true (bit m j) (Aci y t)) (ih (Nat.add j 1))) l
def Oh(l:Nat)(ol:Oper):Bool:=An (Option.rec false (fun d=>Ur d l ops 0) ol.dst) (Sp (fun t=>Zj (gN ms l) t ops 0) (ol.looksAt ops.toArray))
def A29(i:Nat)(rl:List (Nat×Oper))(l:Nat):Bool:=Option.rec true (fun ol=>Bool.rec true (Bool.rec (An (Oo l (rl.map (·.1))) (Oh ops ms l ol)) true (bit (gN ms i) l)) (Nat.beq (kindOf E ol.op) 1)) (Ej ops l)
def Ahe(i:Nat)(rl:List (Nat×Oper))(A B:List Nat):Bool:=An (Sp (fun j=>bit (gN ms j) i) B) (An (Sp (A29 E ops ms i rl) A) (Sp (fun p=>Nat.ble (kindOf E p.2.op) 1) rl))
def A28(rl:List (Nat×Oper))(l:Nat):Bool:=Option.rec true (fun ol=>Bool.rec true (An (Oo l (rl.map (·.1))) (Oh ops ms l ol)) (Nat.beq (kindOf E ol.op) 1)) (Ej ops l)
def Bmp(g:Option (Nat×Bool)):Bool:=match g with
 |none=>true
 |some _=>false
def Af0(o:Oper)(rl:List (Nat×Oper))(A:List Nat):Bool:=An (An (Vb o.op) (Bmp o.guard)) (An (Sp (A28 E ops ms rl) A) (Sp (fun p=>Nat.ble (kindOf E p.2.op) 1) rl))
def Auk(its:Dr):Option (Nat×Bool)→List Nat→List Nat→List Nat→Bool:=Dr.rec (motive:=fun _=>Option (Nat×Bool)→List Nat→List Nat→List Nat→Bool)
 (fun _ _ _ _=>true)
 (fun i o rl r ih g lv A rest=>An (An (Fx o.guard g) (An (Ci (Oo i A)) (Atq o A))) (An (Bool.rec (List.rec true (fun _ _ _=>false) rl) (Bool.rec (Af0 E ops ms o rl A) true (Ahe E ops ms i rl A (r.idx++rest))) (Nat.beq (kindOf E o.op) 2)) (ih g (i::lv) (A++[i]) rest)))
 (fun j gd w b ip pk r ihb ihr g lv A rest=>An (An (Option.rec false (fun o=>Aci o gd) (Ej ops j)) (An (Ur gd j ops 0) (An (Oo j A) (Oo j lv)))) (An (An (Fx pk.guard g) (An (Qu G gd w pk.op) (An (Ci (Oo ip (A++b.idx))) (Atq pk (A++b.idx)))))
  (An (ihb (some (j,w)) [] A (ip::r.idx++rest)) (ihr g (ip::lv) (A++b.idx++[ip]) rest)))) its
def Aai(pl:List Nat):Bool:=fL (Ib ops []) (fun ms=>fL (ops.map fun o=>Apq (o.looksAt ops.toArray)) (fun ls=>
 An (Aqh P E N G ops ops 0) (An (Wa ms ls ops 0) (Option.rec true (fun its=>An (Auk E G ops ms its none [] [] []) (Sp (fun i=>Oo i its.idx) (List.range (len ops)))) (Ar0 E ops pl)))))
end
end Go.Den
namespace Go.Den
open Go.RowKit
open Classical
section
variable{P:Program}{E:Env}{N G:Nat}{D:List Deferred}{ops:Array Oper}
theorem Aic{acc:List Nat}{j:Nat}:∀{es:List Edge},bit (Tl acc es) j=true→∃e∈es,Region.binds .any e=true∧(j=e.on∨bit (gN acc e.on) j=true)
 |[],h=>by rw[Kh] at h;have h:Nat.testBit 0 j=true:=h;simp at h
 |e::es,h=>by
  have ih:=Aic (acc:=acc) (j:=j) (es:=es)
  have h:bit (Bool.rec (Tl acc es) (Nat.lor (Tl acc es) (Nat.lor (Nat.shiftLeft 1 e.on) (gN acc e.on))) (Region.binds .any e)) j=true:=h
  cases hb:Region.binds .any e with
  |false=>
   rw[hb] at h
   obtain⟨e',he',h'⟩:=ih h
   exact⟨e',List.mem_cons_of_mem _ he',h'⟩
  |true=>
   rw[hb,Kh] at h
   have h:Nat.testBit (Tl acc es|||(Nat.shiftLeft 1 e.on|||gN acc e.on)) j=true:=h
   rw[Nat.testBit_or,Nat.testBit_or,Ac9,Bool.or_eq_true,Bool.or_eq_true] at h
   rcases h with h|h|h
   · rw[←Kh] at h
     obtain⟨e',he',h'⟩:=ih h
     exact⟨e',List.mem_cons_of_mem _ he',h'⟩
   · exact⟨e,by simp,hb,.inl (of_decide_eq_true h).symm⟩
   · exact⟨e,by simp,hb,.inr (by rw[Kh];exact h)⟩
theorem Ap5(l:List Nat)(i:Nat):gN l i=l[i]?.getD 0:=by
 unfold gN;rw[Eo];cases l[i]?<;>rfl
theorem Ajx:∀(l:List Oper)(acc:List Nat),ops.toList.drop acc.length=l→(∀i j,bit (gN acc i) j=true→Anc ops i j)→∀i j,bit (gN (Ib l acc) i) j=true→Anc ops i j
 |[],_,_,h,i,j,hb=>h i j hb
 |o::l,acc,hd,h,i,j,hb=>by
  have hb:bit (gN (Ib l (Jh acc [Tl acc o.after.toList])) i) j=true:=hb
  rw[Pp] at hb
  have ho:ops[acc.length]? =some o:=by
   rw[←Array.getElem?_toList]
   have:=congrArg (·[0]?) hd
   simpa using this
  refine Ajx l (acc++[Tl acc o.after.toList]) ?_ ?_ i j hb
  · rw[List.length_append,List.length_singleton,←List.drop_drop,hd];rfl
  · intro i j hb
    rw[Ap5] at hb
    by_cases hi:i<acc.length
    · rw[List.getElem?_append_left hi,←Ap5] at hb;exact h i j hb
    · by_cases he:i=acc.length
      · subst he
        rw[List.getElem?_append_right (Nat.le_refl _)] at hb
        simp only[Nat.sub_self,List.getElem?_cons_zero,Option.getD_some] at hb
        obtain⟨e,he,hbd,hj⟩:=Aic hb
        have hedge:=Anc.Awo ho (Array.mem_toList_iff.1 he) hbd
        rcases hj with rfl|hj
        · exact hedge
        · exact hedge.trans (h _ _ hj)
      · rw[List.getElem?_eq_none (by simp;omega)] at hb
        rw[Kh] at hb;have hb:Nat.testBit 0 j=true:=hb;simp at hb
theorem Sl{i j:Nat}(h:bit (gN (Ib ops.toList []) i) j=true):Anc ops i j:=
 Ajx ops.toList [] rfl (fun i j h=>by rw[Ap5,Kh] at h;simp at h) i j h
theorem Adm{l0:List Oper}:∀{l:List Oper}{i0:Nat},Aqh P E N G l0 l i0=true→∀k o,l[k]? =some o→Hx P E N G o=true∧Agg (i0+k) o=true∧Afw l0 o=true
 |[],_,_,k,o,h=>by simp at h
 |x::l,i0,h,k,o,ho=>by
  obtain⟨h1,h2⟩:=Al (show An (An (Hx P E N G x) (An (Agg i0 x) (Afw l0 x))) (Aqh P E N G l0 l (Nat.add i0 1))=true from h)
  cases k with
  |zero=>
   have e:x=o:=by simpa using ho
   subst e
   obtain⟨h3,h4⟩:=Al h1
   obtain⟨h4,h5⟩:=Al h4
   exact⟨h3,h4,h5⟩
  |succ k=>
   have:=Adm h2 k o (by simpa using ho)
   rw[show Nat.add i0 1+k=i0+(k+1) from by show i0+1+k=_;omega] at this
   exact this
theorem Aad {ms ls : List Nat} {i : Nat} {x : Oper} : ∀ {l : List Oper} {j0 : Nat}, Afh ms ls i x l j0 = true → ∀ k o, l[k]? = some o → Apd ms ls i x (j0 + k) o = true
  | [], _, _, k, o, h => by simp at h
  | y :: l, j0, h, k, o, ho => by
    obtain ⟨h1, h2⟩ := Al (show An (Apd ms ls i x j0 y) (Afh ms ls i x l (Nat.add j0 1)) = true from h)
    cases k with
    | zero => have e : y = o := by simpa using ho
              subst e; exact h1
    | succ k =>
      have := Aad h2 k o (by simpa using ho)
      rw [show Nat.add j0 1 + k = j0 + (k + 1) from by show j0 + 1 + k = _; omega] at this
      exact this
theorem Vz{ms ls:List Nat}:∀{l:List Oper}{i0:Nat},Wa ms ls l i0=true→∀k m x y,k<m→l[k]? =some x→l[m]? =some y→Apd ms ls (i0+k) x (i0+m) y=true
 |[],_,_,k,m,x,y,_,h,_=>by simp at h
 |z::l,i0,h,k,m,x,y,hkm,hx,hy=>by
  obtain⟨h1,h2⟩:=Al (show An (Afh ms ls i0 z l (Nat.add i0 1)) (Wa ms ls l (Nat.add i0 1))=true from h)
  cases m with
  |zero=>omega
  |succ m=>
   cases k with
   |zero=>
    have e:z=x:=by simpa using hx
    subst e
    have:=Aad h1 m y (by simpa using hy)
    rw[show Nat.add i0 1+m=i0+(m+1) from by show i0+1+m=_;omega] at this
    exact this
   |succ k=>
    have:=Vz h2 k m x y (by omega) (by simpa using hx) (by simpa using hy)
    rw[show Nat.add i0 1+m=i0+(m+1) from by show i0+1+m=_;omega,show Nat.add i0 1+k=i0+(k+1) from by show i0+1+k=_;omega] at this
    exact this
theorem Vp{o:Oper}{d:Nat}:Aci o d=true↔o.dst=some d:=by
 unfold Aci
 cases o.dst with
 |none=>simp
 |some e=>
  show Nat.beq e d=true↔_
  rw[Gt];simp
theorem Asi{x y:Oper}{lx ly:Nat}(hx:∀t,bit lx t=true↔t∈x.looksAt ops)(hy:∀t,bit ly t=true↔t∈y.looksAt ops)(h:Agy x y lx ly=true):x.apart ops y=true∧y.apart ops x=true:=by
 obtain⟨h1,h2⟩:=Al h
 have a1:∀d,x.dst=some d→d∉y.looksAt ops∧y.dst≠some d:=fun d hd=>by
  rw[hd] at h1
  obtain⟨h3,h4⟩:=Al (show An (Ci (bit ly d)) (Ci (Aci y d))=true from h1)
  rw[Jf] at h3 h4
  constructor
  · intro hm;rw[(hy d).2 hm] at h3;cases h3
  · intro he;rw[Vp.2 he] at h4;cases h4
 have a2:∀d,y.dst=some d→d∉x.looksAt ops:=fun d hd=>by
  rw[hd] at h2
  have h2:Ci (bit lx d)=true:=h2
  rw[Jf] at h2
  exact fun hm=>by rw[(hx d).2 hm] at h2;cases h2
 constructor
 · unfold Oper.apart
   rw[Bool.and_eq_true]
   constructor
   · cases hd:x.dst with
     |none=>rfl
     |some d=>
      obtain⟨h3,h4⟩:=a1 d hd
      simp[h3,h4]
   · cases hd:y.dst with
     |none=>rfl
     |some d=>simp[a2 d hd]
 · unfold Oper.apart
   rw[Bool.and_eq_true]
   constructor
   · cases hd:y.dst with
     |none=>rfl
     |some d=>
      have h4:x.dst≠some d:=fun he=>(a1 d he).2 hd
      simp[a2 d hd,h4]
   · cases hd:x.dst with
     |none=>rfl
     |some d=>simp[(a1 d hd).1]
theorem Ac8{d g:Nat}:∀{l:List Oper}{j0:Nat},Ur d g l j0=true→∀k o,l[k]? =some o→o.dst=some d→j0+k=g
 |[],_,_,k,o,h,_=>by simp at h
 |y::l,j0,h,k,o,ho,hd=>by
  obtain⟨h1,h2⟩:=Al (show An (Bool.rec true (Nat.beq j0 g) (Aci y d)) (Ur d g l (Nat.add j0 1))=true from h)
  cases k with
  |zero=>
   have e:y=o:=by simpa using ho
   subst e
   rw[Vp.2 hd] at h1
   exact Bo h1
  |succ k=>
   have:=Ac8 h2 k o (by simpa using ho) hd
   rw[show Nat.add j0 1+k=j0+(k+1) from by show j0+1+k=_;omega] at this
   exact this
theorem Uq{d g:Nat}(h:Ur d g ops.toList 0=true):∀j,Ei ops j=some d→j=g:=fun j hj=>by
 obtain⟨o,ho,hd⟩:=Mp hj
 have:=Ac8 h j o (by rw[Array.getElem?_toList];exact ho) hd
 omega
theorem Nz{m t:Nat}:∀{l:List Oper}{j0:Nat},Zj m t l j0=true→∀k o,l[k]? =some o→o.dst=some t→bit m (j0+k)=true
 |[],_,_,k,o,h,_=>by simp at h
 |y::l,j0,h,k,o,ho,hd=>by
  obtain⟨h1,h2⟩:=Al (show An (Bool.rec true (bit m j0) (Aci y t)) (Zj m t l (Nat.add j0 1))=true from h)
  cases k with
  |zero=>
   have e:y=o:=by simpa using ho
   subst e
   rw[Vp.2 hd] at h1
   exact h1
  |succ k=>
   have:=Nz h2 k o (by simpa using ho) hd
   rw[show Nat.add j0 1+k=j0+(k+1) from by show j0+1+k=_;omega] at this
   exact this
theorem Bby{ls:List Nat}(hls:ls=ops.toList.map fun o=>Apq (o.looksAt ops))(h1:Aqh P E N G ops.toList ops.toList 0=true)(h2:Wa (Ib ops.toList []) ls ops.toList 0=true):Wf P E N G ops:=by
 have get:∀{i:Nat}{o:Oper},ops[i]? =some o→ops.toList[i]? =some o:=fun h=>by rw[Array.getElem?_toList];exact h
 have each:=fun i o (h:ops[i]? =some o)=>Adm h1 i o (get h)
 have hl:∀i o,ops[i]? =some o→∀t,bit (gN ls i) t=true↔t∈o.looksAt ops:=fun i o ho t=>by
  rw[Ap5,hls,List.getElem?_map,get ho]
  exact Ada
 refine⟨?_,?_,?_,?_⟩
 · intro i o e ho he hb
   have:=Gc.1 (each i o ho).2.1 e (Array.mem_toList_iff.2 he)
   rw[hb] at this
   have:=Bu this
   have h:e.on+1≤0+i:=this
   omega
 · intro i j oi oj hi hj hne
   have key:∀i j oi oj,ops[i]? =some oi→ops[j]? =some oj→i<j→Anc ops i j∨Anc ops j i∨(oi.apart ops oj=true∧oj.apart ops oi=true):=by
    intro i j oi oj hi hj hlt
    have h:=Vz h2 i j oi oj hlt (get hi) (get hj)
    rw[Nat.zero_add,Nat.zero_add] at h
    have h:(Bool.rec (Bool.rec (Agy oi oj (gN ls i) (gN ls j)) true (bit (gN (Ib ops.toList []) j) i)) true (bit (gN (Ib ops.toList []) i) j):Bool)=true:=h
    cases hb:bit (gN (Ib ops.toList []) i) j with
    |true=>exact .inl (Sl hb)
    |false=>
     rw[hb] at h
     have h:(Bool.rec (Agy oi oj (gN ls i) (gN ls j)) true (bit (gN (Ib ops.toList []) j) i):Bool)=true:=h
     cases hb2:bit (gN (Ib ops.toList []) j) i with
     |true=>exact .inr (.inl (Sl hb2))
     |false=>
      rw[hb2] at h
      exact .inr (.inr (Asi (hl i oi hi) (hl j oj hj) h))
   rcases Nat.lt_or_gt_of_ne hne with h|h
   · rcases key i j oi oj hi hj h with h|h|h
     · exact .inl h
     · exact .inr (.inl h)
     · exact .inr (.inr h.1)
   · rcases key j i oj oi hj hi h with h|h|h
     · exact .inr (.inl h)
     · exact .inl h
     · exact .inr (.inr h.2)
 · intro i o g w ho hg
   have h:=(each i o ho).2.2
   unfold Afw at h
   rw[hg] at h
   obtain⟨h3,h4⟩:=Al (show An (Ci (Sp (fun e=>Ci (An (Region.binds .any e) (Nat.beq e.on g))) o.after.toList)) (Option.rec false (fun og=>Option.rec false (fun d=>Ur d g ops.toList 0) og.dst) (Ej ops.toList g))=true from h)
   constructor
   · rw[Jf] at h3
     have:∃e∈o.after.toList,Ci (An (Region.binds .any e) (Nat.beq e.on g))=false:=by
      refine Classical.byContradiction fun hn=>?_
      have:Sp (fun e=>Ci (An (Region.binds .any e) (Nat.beq e.on g))) o.after.toList=true:=Gc.2 fun e he=>by
       cases hb:Ci (An (Region.binds .any e) (Nat.beq e.on g)) with
       |true=>rfl
       |false=>exact absurd ⟨e,he,hb⟩ hn
      rw[this] at h3;cases h3
     obtain⟨e,he,hb⟩:=this
     rw[Jf] at hb
     have hb:An (Region.binds .any e) (Nat.beq e.on g)=true:=by simpa using hb
     obtain⟨hb1,hb2⟩:=Al hb
     have:=Anc.Awo ho (Array.mem_toList_iff.1 he) hb1
     rw[Bo hb2] at this
     exact this
   · rw[Eo,Array.getElem?_toList] at h4
     cases hog:ops[g]? with
     |none=>rw[hog] at h4;cases h4
     |some og=>
      rw[hog] at h4
      have h4:(Option.rec false (fun d=>Ur d g ops.toList 0) og.dst:Bool)=true:=h4
      cases hd:og.dst with
      |none=>rw[hd] at h4;cases h4
      |some d=>
       rw[hd] at h4
       refine⟨d,by unfold Ei;rw[hog];exact hd,Uq h4⟩
 · intro o ho
   obtain⟨i,hi,e⟩:=Array.mem_iff_getElem.1 ho
   exact(each i o (by rw[Array.getElem?_eq_getElem hi,e])).1
def Dr.A2n(ops:Array Oper)(its:Dr):Prop:=Dr.rec (motive:=fun _=>Prop) True (fun i o rl _ ih=>ops[i]? =some o∧(∀p∈rl,ops[p.1]? =some p.2)∧ih) (fun _ _ _ _ ip pk _ ihb ihr=>ihb∧ops[ip]? =some pk∧ihr) its
def Aj1(ops:Array Oper)(l:List Tri):Prop:=∀t∈l,ops[t.1]? =some t.2.1∧∀p∈t.2.2,ops[p.1]? =some p.2
theorem Arb{l0:List Oper}:∀(n:Nat)(g:Option (Nat×Bool))(l:List Tri),Aj1 ops l→Dr.A2n ops (Gg l0 n g l).1∧Aj1 ops (Gg l0 n g l).2:=by
 intro n
 induction n with
 |zero=>intro g l h;exact⟨trivial,h⟩
 |succ n ih=>
  intro g l h
  cases l with
  |nil=>exact⟨trivial,h⟩
  |cons o l'=>
   have ho:=h o (by simp)
   have hl':Aj1 ops l':=fun t ht=>h t (by simp[ht])
   show Dr.A2n ops (Rt l0 (Gg l0 n) g (o::l')).1∧Aj1 ops (Rt l0 (Gg l0 n) g (o::l')).2
   unfold Rt
   simp only
   cases hs:Fx o.2.1.guard g with
   |true=>
    simp only
    have:=ih g l' hl'
    generalize Gg l0 n g l'=q at this ⊢
    obtain⟨q1,q2⟩:=q
    exact⟨⟨ho.1,ho.2,this.1⟩,this.2⟩
   |false=>
    simp only
    cases hg:o.2.1.guard with
    |none=>exact⟨trivial,h⟩
    |some p=>
     simp only
     cases A1c l0 g p.1 with
     |none=>exact⟨trivial,h⟩
     |some gd=>
      simp only
      have hb:=ih (some p) (o::l') h
      generalize Gg l0 n (some p) (o::l')=q at hb ⊢
      obtain⟨q1,q2⟩:=q
      cases q2 with
      |nil=>exact⟨trivial,h⟩
      |cons pk l''=>
       simp only
       have hpk:=hb.2 pk (by simp)
       have hc:=ih g l'' fun t ht=>hb.2 t (by simp[ht])
       generalize Gg l0 n g l''=z at hc ⊢
       obtain⟨z1,z2⟩:=z
       exact⟨⟨hb.1,hpk.1,hc.1⟩,hc.2⟩
theorem Acz{ms:List Nat}{m:Nat}{g:Option (Nat×Bool)}:∀{done:List (Nat×Oper)},(∀p∈done,ops[p.1]? =some p.2)→∀p∈Ark E ms m g done,ops[p.1]? =some p.2
 |[],_,p,hp=>nomatch hp
 |d::l,h,p,hp=>by
  have hp:p∈(Bool.rec (Ark E ms m g l) (d::Ark E ms m g l) (An (Nat.beq (kindOf E d.2.op) 1) (An (Bool.rec (Fx d.2.guard g) true (Fx d.2.guard none)) (Ci (bit m d.1)))):List (Nat×Oper)):=hp
  have ih:=Acz (ms:=ms) (m:=m) (g:=g) (done:=l) (fun q hq=>h q (by simp[hq])) p
  cases hb:An (Nat.beq (kindOf E d.2.op) 1) (An (Bool.rec (Fx d.2.guard g) true (Fx d.2.guard none)) (Ci (bit m d.1))) with
  |false=>rw[hb] at hp;exact ih hp
  |true=>
   rw[hb] at hp
   rcases List.mem_cons.1 hp with rfl|hp
   · exact h p (by simp)
   · exact ih hp
theorem Ua{ms:List Nat}:∀(pl:List Nat)(done:List (Nat×Oper)),(∀p∈done,ops[p.1]? =some p.2)→Aj1 ops (triples E ops.toList ms pl done)
 |[],_,_,t,ht=>nomatch ht
 |i::pl,done,h,t,ht=>by
  have ht:t∈(Option.rec [] (fun o=>(i,o,(Bool.rec [] (Ark E ms (Aux o.op ms i pl) o.guard done) (Nat.beq (kindOf E o.op) 2):List (Nat×Oper)))::triples E ops.toList ms pl (Jh done [(i,o)])) (Ej ops.toList i):List Tri):=ht
  cases hi:Ej ops.toList i with
  |none=>rw[hi] at ht;cases ht
  |some o=>
   rw[hi] at ht
   have ho:ops[i]? =some o:=by rw[Eo,Array.getElem?_toList] at hi;exact hi
   rcases List.mem_cons.1 ht with rfl|ht
   · refine⟨ho,fun p hp=>?_⟩
     have hp:p∈(Bool.rec [] (Ark E ms (Aux o.op ms i pl) o.guard done) (Nat.beq (kindOf E o.op) 2):List (Nat×Oper)):=hp
     cases hb:Nat.beq (kindOf E o.op) 2 with
     |false=>rw[hb] at hp;cases hp
     |true=>rw[hb] at hp;exact Acz h p hp
   · refine Ua pl _ (fun p hp=>?_) t ht
     rw[Pp] at hp
     rcases List.mem_append.1 hp with hp|hp
     · exact h p hp
     · rw[List.mem_singleton.1 hp];exact ho
theorem Arz{pl:List Nat}{its:Dr}(h:Ar0 E ops.toList pl=some its):its.A2n ops:=by
 unfold Ar0 at h
 have:=(Arb (ops:=ops) (l0:=ops.toList) (Nat.add (Nat.mul 2 (len ops.toList)) 2) none _ (Ua (E:=E) (ms:=Ib ops.toList []) pl [] (fun p hp=>nomatch hp))).1
 generalize Gg ops.toList (Nat.add (Nat.mul 2 (len ops.toList)) 2) none (triples E ops.toList (Ib ops.toList []) pl [])=q at h this
 obtain⟨q1,q2⟩:=q
 cases q2 with
 |nil=>cases h;exact this
 |cons=>cases h
end
end Go.Den
namespace Go.Den
open Go.RowKit
open Classical
section
variable{P:Program}{E:Env}{N G:Nat}{D:List Deferred}{ops:Array Oper}{call:CF}
theorem Ao8{o:Oper}{A:List Nat}(h:Atq o A=true){i:Nat}(ho:ops[i]? =some o):Rdy ops (asg A) i:=fun o' e h1 h2 h3=>by
 rw[ho] at h1;cases h1
 have:=Gc.1 h e (Array.mem_toList_iff.2 h2)
 rw[h3] at this
 exact Df.2 (Jb.1 this)
theorem Ql{o:Oper}:∀{rl:List (Nat×Oper)},o∈Zq rl↔∃p∈rl,p.2=o
 |[]=>by simp[Zq]
 |p::rl=>by
  have ih:=Ql (o:=o) (rl:=rl)
  show o∈p.2::Zq rl↔_
  rw[List.mem_cons,ih]
  simp only[List.mem_cons,exists_eq_or_imp]
  exact⟨fun h=>h.imp Eq.symm id,fun h=>h.imp Eq.symm id⟩
theorem As0{i:Nat}{rl:List (Nat×Oper)}{A B:List Nat}(hrl:∀p∈rl,ops[p.1]? =some p.2)(h:Ahe E ops.toList (Ib ops.toList []) i rl A B=true):Ag1 ops E i (Zq rl) A B:=by
 obtain⟨h1,h2⟩:=Al h
 obtain⟨h2,h3⟩:=Al h2
 have look:∀l ol,l∈A→ops[l]? =some ol→kindOf E ol.op=1→Anc ops i l∨(ol∈Zq rl∧Oh ops.toList (Ib ops.toList []) l ol=true):=fun l ol hl hol hk=>by
  have hb:=Gc.1 h2 l hl
  unfold A29 at hb
  rw[Eo,Array.getElem?_toList,hol] at hb
  have hb:(Bool.rec true (Bool.rec (An (Oo l (rl.map (·.1))) (Oh ops.toList (Ib ops.toList []) l ol)) true (bit (gN (Ib ops.toList []) i) l)) (Nat.beq (kindOf E ol.op) 1):Bool)=true:=hb
  rw[hk] at hb
  have hb:(Bool.rec (An (Oo l (rl.map (·.1))) (Oh ops.toList (Ib ops.toList []) l ol)) true (bit (gN (Ib ops.toList []) i) l):Bool)=true:=hb
  cases hbit:bit (gN (Ib ops.toList []) i) l with
  |true=>exact .inl (Sl hbit)
  |false=>
   rw[hbit] at hb
   obtain⟨h5,h6⟩:=Al hb
   obtain⟨p,hp,hpl⟩:=List.mem_map.1 (Jb.1 h5)
   refine .inr ⟨Ql.2 ⟨p,hp,?_⟩,h6⟩
   have:=hrl p hp
   rw[hpl,hol] at this
   exact(Option.some.inj this).symm
 refine⟨fun o ho=>?_,fun j hj=>Sl (Gc.1 h1 j hj),fun l ol hl hol hk=>?_,fun l ol hl hol hk=>?_⟩
 · obtain⟨p,hp,rfl⟩:=Ql.1 ho
   have:=Bu (Gc.1 h3 p hp)
   omega
 · exact(look l ol hl hol hk).imp id fun h=>h.1
 · refine(look l ol hl hol hk).imp id fun⟨_,h⟩=>?_
   obtain⟨h4,h5⟩:=Al h
   constructor
   · cases hd:ol.dst with
     |none=>rw[hd] at h4;cases h4
     |some d=>rw[hd] at h4;exact⟨d,rfl,Uq h4⟩
   · intro t ht j hj
     have:=Gc.1 h5 t (by simpa using ht)
     obtain⟨oj,hoj,hdj⟩:=Mp hj
     have:=Nz this j oj (by rw[Array.getElem?_toList];exact hoj) hdj
     rw[Nat.zero_add] at this
     exact Sl this
theorem Arv{o:Oper}{rl:List (Nat×Oper)}{A:List Nat}(hrl:∀p∈rl,ops[p.1]? =some p.2)(h:Af0 E ops.toList (Ib ops.toList []) o rl A=true):Zh ops E o (Zq rl) A:=by
 obtain⟨h1,h2⟩:=Al h
 obtain⟨h1,hgd⟩:=Al h1
 obtain⟨h2,h3⟩:=Al h2
 refine⟨h1,?_,fun o ho=>?_,fun l ol hl hol hk=>?_⟩
 · cases hg:o.guard with
   |none=>rfl
   |some=>rw[hg] at hgd;cases hgd
 · obtain⟨p,hp,rfl⟩:=Ql.1 ho
   have:=Bu (Gc.1 h3 p hp)
   omega
 · have hb:=Gc.1 h2 l hl
   unfold A28 at hb
   rw[Eo,Array.getElem?_toList,hol] at hb
   have hb:(Bool.rec true (An (Oo l (rl.map (·.1))) (Oh ops.toList (Ib ops.toList []) l ol)) (Nat.beq (kindOf E ol.op) 1):Bool)=true:=hb
   rw[hk] at hb
   obtain⟨h5,h6⟩:=Al (show An (Oo l (rl.map (·.1))) (Oh ops.toList (Ib ops.toList []) l ol)=true from hb)
   obtain⟨p,hp,hpl⟩:=List.mem_map.1 (Jb.1 h5)
   have hrp:=hrl p hp
   rw[hpl,hol] at hrp
   obtain⟨h7,h8⟩:=Al h6
   refine⟨Ql.2 ⟨p,hp,(Option.some.inj hrp).symm⟩,?_,?_⟩
   · cases hd:ol.dst with
     |none=>rw[hd] at h7;cases h7
     |some d=>rw[hd] at h7;exact⟨d,rfl,Uq h7⟩
   · intro t ht j hj
     have:=Gc.1 h8 t (by simpa using ht)
     obtain⟨oj,hoj,hdj⟩:=Mp hj
     have:=Nz this j oj (by rw[Array.getElem?_toList];exact hoj) hdj
     rw[Nat.zero_add] at this
     exact Sl this
theorem Yq:∀{its:Dr}{g:Option (Nat×Bool)}{lv A rest:List Nat},its.A2n ops→Auk E G ops.toList (Ib ops.toList []) its g lv A rest=true→OkD ops E G its g lv A rest
 |.nil,_,_,_,_,_,_=>trivial
 |.op i o rl r,g,lv,A,rest,hf,h=>by
  obtain⟨ho,hrl,hr⟩:=hf
  obtain⟨h1,h2⟩:=Al (show An (An (Fx o.guard g) (An (Ci (Oo i A)) (Atq o A))) (An (Bool.rec (List.rec true (fun _ _ _=>false) rl) (Bool.rec (Af0 E ops.toList (Ib ops.toList []) o rl A) true (Ahe E ops.toList (Ib ops.toList []) i rl A (r.idx++rest))) (Nat.beq (kindOf E o.op) 2)) (Auk E G ops.toList (Ib ops.toList []) r g (i::lv) (A++[i]) rest))=true from h)
  obtain⟨h3,h4⟩:=Al h1
  obtain⟨h4,h5⟩:=Al h4
  obtain⟨h6,h7⟩:=Al h2
  refine⟨ho,Lp h3,fun hm=>?_,Ao8 h5 ho,fun hk=>?_,fun hk=>?_,Yq hr h7⟩
  · rw[Jb.2 hm] at h4;cases h4
  · have:Nat.beq (kindOf E o.op) 2=false:=by rw[Gt];simp;omega
    rw[this] at h6
    cases rl with
    |nil=>rfl
    |cons=>cases h6
  · rw[hk] at h6
    have h6:(Bool.rec (Af0 E ops.toList (Ib ops.toList []) o rl A) true (Ahe E ops.toList (Ib ops.toList []) i rl A (r.idx++rest)):Bool)=true:=h6
    cases hb:Ahe E ops.toList (Ib ops.toList []) i rl A (r.idx++rest) with
    |true=>exact .inl (As0 hrl hb)
    |false=>rw[hb] at h6;exact .inr (Arv hrl h6)
 |.grp j gd w b ip pk r,g,lv,A,rest,hf,h=>by
  obtain⟨hfb,hop,hfr⟩:=hf
  obtain⟨h1,h2⟩:=Al (show An (An (Option.rec false (fun o=>Aci o gd) (Ej ops.toList j)) (An (Ur gd j ops.toList 0) (An (Oo j A) (Oo j lv)))) (An (An (Fx pk.guard g) (An (Qu G gd w pk.op) (An (Ci (Oo ip (A++b.idx))) (Atq pk (A++b.idx)))))
   (An (Auk E G ops.toList (Ib ops.toList []) b (some (j,w)) [] A (ip::r.idx++rest)) (Auk E G ops.toList (Ib ops.toList []) r g (ip::lv) (A++b.idx++[ip]) rest)))=true from h)
  obtain⟨h3,h4⟩:=Al h1
  obtain⟨h4,h5⟩:=Al h4
  obtain⟨h5,h6⟩:=Al h5
  obtain⟨h7,h8⟩:=Al h2
  obtain⟨h9,h10⟩:=Al h7
  obtain⟨h10,h11⟩:=Al h10
  obtain⟨h11,h12⟩:=Al h11
  obtain⟨h13,h14⟩:=Al h8
  refine⟨?_,Uq h4,Jb.1 h5,Jb.1 h6,hop,Lp h9,h10,fun hm=>?_,Ao8 h12 hop,Yq hfb h13,Yq hfr h14⟩
  · rw[Eo,Array.getElem?_toList] at h3
    unfold Ei
    cases ho:ops[j]? with
    |none=>rw[ho] at h3;cases h3
    |some o=>rw[ho] at h3;exact Vp.1 h3
  · rw[Jb.2 hm] at h11;cases h11
theorem Arf{L M A B:List Nat}{i:Nat}(h:L++M=A++i::B):(∃B',L=A++i::B')∨(∃A',A=L++A'∧M=A'++i::B):=by
 rcases List.append_eq_append_iff.1 h with⟨z,h1,h2⟩|⟨z,h1,h2⟩
 · exact .inr ⟨z,h1,h2⟩
 · cases z with
   |nil=>simp only[List.append_nil,List.nil_append] at h1 h2;exact .inr ⟨[],by rw[h1];simp,h2.symm⟩
   |cons x z=>
    simp only[List.cons_append,List.cons.injEq] at h2
    exact .inl ⟨z,by rw[h1,h2.1]⟩
theorem Yp:∀{its:Dr}{g:Option (Nat×Bool)}{lv A rest:List Nat},OkD ops E G its g lv A rest→∀A' i B,its.idx=A'++i::B→Rdy ops (asg (A++A')) i
 |.nil,_,_,_,_,_,A',i,B,h=>by cases A'<;>cases h
 |.op x o rl r,_,_,A,_,hk,A',i,B,h=>by
  obtain⟨_,_,_,hr,_,_,hrr⟩:=hk
  cases A' with
  |nil=>
   have h:x::r.idx=i::B:=h
   cases h
   rw[List.append_nil];exact hr
  |cons y A'=>
   have h:x::r.idx=y::(A'++i::B):=h
   obtain⟨rfl,h'⟩:=List.cons.inj h
   have:=Yp hrr A' i B h'
   rw[List.append_assoc] at this;exact this
 |.grp j gd w b ip pk r,_,_,A,_,hk,A',i,B,h=>by
  obtain⟨_,_,_,_,_,_,_,_,hr,hb,hrr⟩:=hk
  rw[Mm] at h
  rcases Arf h with⟨B',h1⟩|⟨A2,h1,h2⟩
  · exact Yp hb A' i B' h1
  · subst h1
    cases A2 with
    |nil=>cases h2;rw[List.append_nil];exact hr
    |cons y A2=>
     obtain⟨rfl,h2'⟩:=List.cons.inj h2
     have:=Yp hrr A2 i B h2'
     simp only[List.append_assoc,List.cons_append,List.nil_append] at this ⊢
     exact this
theorem Sim.drawn{μ:Mu}{h:H}{w:World}(s:Sim μ h w)(n:Nat):Sim μ h { w with drawn:=n }∧Dc μ h w μ h { w with drawn:=n }:=
 ⟨⟨s.fresh,s.dead,fun b l hb hl=>(s.ob b l hb hl).world rfl,s.inj⟩,⟨.refl μ,Nat.le_refl _,fun _ _ _=>rfl,fun _ _ o=>o,⟨Nat.le_refl _,fun _ _ e=>⟨e,rfl⟩⟩,rfl,rfl,rfl⟩⟩
theorem A1p{ro:Option Nat}(hm:P.follows .mixedOrders=true)(ok:Cg P E)(hcall:Fb P (CP E) G (fun p=>p) call){pl:List Nat}(hd:Aai P E N G ops.toList pl=true){Q:Exit→Act→World→Prop}{id:Nat}{μ:Mu}{f:FT}{h:H}{a:Act}{w:World}
 {K:FT→H→Prop} (fr:FR μ N D f a) (s:Sim μ h w) (gl:Hj μ G) (hg:oV (Ar0 E ops.toList pl) (fun its=>Jj E call its f h K))
 (hQ:∀μ' f' h' a' w',FR μ' N D f' a'→Sim μ' h' w'→Dc μ h w μ' h' w'→Hj μ' G→K f' h'→Q .normal a' w'):(Code.region id ops true).wpIn (Fo ro) 0 P Q a w:=by
 obtain⟨its,Pa,hrun⟩:=Ol hg
 unfold Aai at hd
 rw[Av4,Av4] at hd
 obtain⟨h1,h2⟩:=Al hd
 obtain⟨h2,h3⟩:=Al h2
 rw[Pa] at h3
 obtain⟨h3,h4⟩:=Al h3
 have wf:Wf P E N G ops:=Bby (by simp) h1 h2
 have hok:=Yq (Arz Pa) h3
 have hpi:∀A i B,its.idx=A++i::B→Rdy ops (asg A) i:=fun A i B e=>by
  have:=Yp hok A i B e
  rwa [List.nil_append] at this
 have hall:∀i,i<ops.size→i∈its.idx:=fun i hi=>Jb.1 (Gc.1 h4 i (List.mem_range.2 (by rw[De];simpa using hi)))
 obtain⟨s',x'⟩:=s.drawn (w.drawn+1)
 refine wpIn_region_any hm ?_
 have dc0:DC ops (asg []):=by intro i o e hi;simp[asg] at hi
 have hgood:Good ops E call f K [] (fun _=>.undef) [] (its.idx++[]) (fun f h=>Jj E call its f h K):=by
  refine Yw wf its hok dc0 (fun _ h=>nomatch h) (fun _ _ e=>nomatch e) ?_
  rw[List.nil_append]
  refine .mk fun v f' hh hv hs hc=>.fin (.refl _ _) (fun _ h=>nomatch h) (by rw[List.append_nil];exact hs) hc
 rw[List.append_nil] at hgood
 have h0:FS ops (fun _=>AV.undef) f (asg []) ops.size=f:=by
  have:∀n,FS ops (fun _=>AV.undef) f (asg []) n=f:=by
   intro n
   induction n with
   |zero=>rfl
   |succ n ih=>simp only[FS];rw[if_neg (by simp[asg])];exact ih
  exact this _
 cases hgood with
 |mk hgood=>
  obtain⟨v,A1,rem,e1,he,hf,tl⟩:=(hgood (fun _=>.undef) f h (.refl _ _) (fun t=>.inr (by rw[h0])) hrun).tail
  rw[List.nil_append] at tl
  have hlist:(fun j=>(Array.replicate ops.size false).getD j false)=fun _=>false:=by
   funext j
   rw[Array.getD_eq_getD_getElem?,Array.getElem?_replicate]
   split<;>rfl
  refine Bbk (f0:=f) wf ok hcall hpi hall (fun μ' f' h' a' w' b1 b2 b3 b4 b5=>hQ μ' f' h' a' w' b1 b2 (x'.trans b3) b4 b5) ops.size _ a _ (by simp) ?_ ?_
  · refine Nat.le_trans List.countP_le_length ?_
    simp
  · rw[hlist]
    obtain⟨A',v',h',rem',gs',c1,c2,c3,c4,c5,c6,c7,c8⟩:=settle (P:=P) (μ0:=μ) (h0:=h) (w0:={ w with drawn:=w.drawn+1 }) (S:=fun _=>false) (gs:=fun _=>none) wf ok hpi rem.length (Nat.le_refl _) e1.symm (fun i hi=>Bool.noConfusion hi) (fun i hi _=>.inl ⟨rfl,hf i hi⟩) ⟨(fun _ _ e=>by cases e),(fun _ _ _ e=>by cases e)⟩ s' (.refl _ _ _) tl
    refine⟨⟨A',v',h',μ,rem',gs',(fun i o e hi=>Bool.noConfusion hi),(fun i hi=>Bool.noConfusion hi),?_,c6,c7,gl,c4,c5,c1,c8⟩⟩
    have:FS ops v' f (fun _=>false) ops.size=f:=by
     have:∀n,FS ops v' f (fun _=>false) n=f:=by
      intro n
      induction n with
      |zero=>rfl
      |succ n ih=>simp only[FS];rw[if_neg (by simp)];exact ih
     exact this _
    rw[this]
    exact fr
end
end Go.Den
