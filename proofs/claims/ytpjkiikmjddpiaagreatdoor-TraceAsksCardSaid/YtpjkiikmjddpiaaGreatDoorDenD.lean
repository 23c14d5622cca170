/-
  A part of the proof: DenD1, DenD2, DenD3, DenD4, DenD5, DenD6, DenD7, DenD8.
-/
import Derived.Test.YtpjkiikmjddpiaaGreatDoorDenP
import Derived.Orders
import Derived.OrdersIn
/-
  What only reckons, or only looks at memory, gives one value and leaves memory as it is.
-/
namespace Go.Den
open Go.RowKit

/-- one thing follows -/
def CD{β:Type}(M:(β→Prop)→Prop):Prop:=∀K,M K→∃v,K v∧∀K',K' v→M K'
theorem CD.ret{β:Type}(x:β):CD (fun K=>K x):=fun _ h=>⟨x,h,fun _ h=>h⟩
theorem CD.bind{β γ:Type}{A:(β→Prop)→Prop}{B:β→(γ→Prop)→Prop}(ha:CD A)(hb:∀x,CD (B x)):CD (fun K=>A (fun x=>B x K)):=fun K h=>by
  obtain⟨x,hx,ka⟩:=ha _ h
  obtain⟨v,hv,kb⟩:=hb x _ hx
  exact⟨v,hv,fun K' h'=>ka _ (kb K' h')⟩
theorem CD.no{β:Type}{M:(β→Prop)→Prop}(h:∀K,¬M K):CD M:=fun K hK=>(h K hK).elim
theorem CD.of_eq{β:Type}{M N:(β→Prop)→Prop}(e:∀K,M K=N K)(h:CD M):CD N:=fun K hK=>by
  rw[←e] at hK
  obtain⟨v,hv,k⟩:=h K hK
  exact⟨v,hv,fun K' h'=>by rw[←e];exact k K' h'⟩
theorem CD.ite{β:Type}{c:Bool}{M:(β→Prop)→Prop}(h:CD M):CD (fun K=>(Bool.rec False (M K) c:Prop)):=by
  cases c
  · exact CD.no fun _ h=>h
  · exact h
theorem CD.ite0{β:Type}{c:Bool}{M:(β→Prop)→Prop}(h:CD M):CD (fun K=>(Bool.rec bad0 (M K) c:Prop)):=by
  cases c
  · exact CD.no fun _ h=>bad0_no h
  · exact h
theorem CD.ite'{β:Type}{c:Bool}{M:(β→Prop)→Prop}(h:CD M):CD (fun K=>(Bool.rec (M K) False c:Prop)):=by
  cases c
  · exact h
  · exact CD.no fun _ h=>h
theorem cd_fN(n:Nat):CD (fN n):=CD.ret n
theorem cd_fI(n:Int):CD (fI n):=CD.of_eq (fun K=>(fI_eq n K).symm) (CD.ret n)
theorem cd_asI(k:IntKind)(v:AV):CD (asI k v):=fun K h=>by
  obtain⟨n,rfl,hn⟩:=asI_inv h
  refine⟨n,hn,fun K' h'=>?_⟩
  show(Bool.rec bad0 (K' n) (ikEq k k):Prop)
  have:ikEq k k=true:=by cases k<;>rfl
  rw[this];exact h'
theorem cd_asIx(v:AV):CD (asIx v):=fun K h=>by obtain⟨k,n,rfl,hn⟩:=asIx_inv h;exact⟨n,hn,fun _ h=>h⟩
theorem cd_asB(v:AV):CD (asB v):=fun K h=>by obtain⟨b,rfl,hn⟩:=asB_inv h;exact⟨b,hn,fun _ h=>h⟩
theorem cd_asS(v:AV):∀{γ:Type}{B:Nat→Nat→(γ→Prop)→Prop},(∀l c,CD (B l c))→CD (fun K=>asS v (fun l c=>B l c K)):=fun hb K h=>by
  obtain⟨l,c,rfl,hn⟩:=asS_inv h
  exact hb l c K hn
theorem cd_asP(v:AV):∀{γ:Type}{B:P→Nat→(γ→Prop)→Prop},(∀l c,CD (B l c))→CD (fun K=>asP v (fun l c=>B l c K)):=fun hb K h=>by
  obtain⟨l,c,rfl,hn⟩:=asP_inv h
  exact hb l c K hn
theorem cd_asG(v:AV):CD (asG v):=fun K h=>by obtain⟨b,rfl,hn⟩:=asG_inv h;exact⟨b,hn,fun _ h=>h⟩
theorem cd_asT(v:AV):CD (asT v):=fun K h=>by obtain⟨b,rfl,hn⟩:=asT_inv h;exact⟨b,hn,fun _ h=>h⟩
theorem cd_oV{α:Type}(o:Option α):CD (oV o):=fun K h=>by obtain⟨v,rfl,hn⟩:=oV_inv h;exact⟨v,hn,fun _ h=>h⟩
theorem cd_natI(n:Int):CD (natI n):=fun K h=>by obtain⟨m,rfl,hn⟩:=natI_inv h;exact⟨m,hn,fun _ h=>h⟩
theorem cd_natV(v:AV):CD (natV v):=(cd_asIx v).bind fun n=>cd_natI n
theorem cd_lenV(v:AV):CD (lenV v):=fun K h=>by
  cases v<;>first|exact(bad0_no h).elim|exact⟨_,h,fun _ h=>h⟩
theorem cd_elemA(sz i:Nat)(v:AV):CD (elemA sz i v):=fun K h=>by
  cases v<;>try exact(bad0_no h).elim
  rename_i b o n z t
  exact CD.ite0 (c:=band (Nat.ble (Nat.add i 1) n) (Nat.beq sz z)) (M:=fun K=>fN (Nat.add o (Nat.mul i sz)) (fun q=>K (AV.ptr b q))) ((cd_fN _).bind fun q=>CD.ret _) K h
theorem cd_nat2(a b:Int){γ:Type}{B:Nat→Nat→(γ→Prop)→Prop}(hb:∀x y,CD (B x y)):CD (fun K=>nat2 a b (fun x y=>B x y K)):=
  (cd_natI a).bind fun x=>(cd_natI b).bind fun y=>hb x y
section
variable{E:Env}
theorem cd_bI(op:BinOp)(k:IntKind)(a b:Int):CD (bI op k a b):=by
  cases op
  case add=>exact(cd_fI _).bind fun n=>CD.ret _
  case sub=>exact(cd_fI _).bind fun n=>CD.ret _
  case mul=>exact(cd_fI _).bind fun n=>CD.ret _
  case quo=>exact CD.ite' (M:=fun K=>fI _ (fun n=>K (AV.int k n))) ((cd_fI _).bind fun n=>CD.ret _)
  case rem=>exact CD.ite' (M:=fun K=>fI _ (fun n=>K (AV.int k n))) ((cd_fI _).bind fun n=>CD.ret _)
  case shl=>exact(cd_natI b).bind (B:=fun b K=>fI _ (fun n=>K (AV.int k n))) fun m=>(cd_fI _).bind fun n=>CD.ret _
  case shr=>exact(cd_natI b).bind (B:=fun b K=>fI _ (fun n=>K (AV.int k n))) fun m=>(cd_fI _).bind fun n=>CD.ret _
  case and=>exact cd_nat2 a b (B:=fun x y K=>(Bool.rec False (fN (Nat.land x y) (fun n=>K (AV.int k (.ofNat n)))) (band (Nat.ble x (intMax k)) (Nat.ble y (intMax k))):Prop)) fun x y=>CD.ite ((cd_fN _).bind fun n=>CD.ret _)
  case or=>exact cd_nat2 a b (B:=fun x y K=>(Bool.rec False (fN (Nat.lor x y) (fun n=>K (AV.int k (.ofNat n)))) (band (Nat.ble x (intMax k)) (Nat.ble y (intMax k))):Prop)) fun x y=>CD.ite ((cd_fN _).bind fun n=>CD.ret _)
  case xor=>exact cd_nat2 a b (B:=fun x y K=>(Bool.rec False (fN (Nat.xor x y) (fun n=>K (AV.int k (.ofNat n)))) (band (Nat.ble x (intMax k)) (Nat.ble y (intMax k))):Prop)) fun x y=>CD.ite ((cd_fN _).bind fun n=>CD.ret _)
  case andNot=>exact CD.no fun _ h=>h
  all_goals exact CD.ret _
theorem cd_bS(op:BinOp)(l c m d:Nat):CD (bS op l c m d):=by
  cases op
  case add=>exact CD.ite (M:=fun K=>fN _ (fun n=>fN _ (fun e=>K (AV.str n e)))) ((cd_fN _).bind fun n=>(cd_fN _).bind fun e=>CD.ret _)
  all_goals first|exact CD.ret _|exact CD.no fun _ h=>h
theorem cd_bin2(op:BinOp)(t:TypeId)(x y:AV):CD (bin2 E op t x y):=by
  unfold bin2
  split
  · unfold binD
    split
    · refine(cd_asI _ _).bind fun a=>?_
      unfold asI2
      split
      · exact(cd_asIx _).bind fun b=>cd_bI _ _ _ _
      · exact(cd_asI _ _).bind fun b=>cd_bI _ _ _ _
    · exact cd_asS x fun l c=>cd_asS y fun m d=>cd_bS _ _ _ _ _
    · exact cd_oV _
  · exact CD.no fun _ h=>h
theorem cd_bin3(op:BinOp)(t:TypeId)(ox oy:Operand)(x y:AV):CD (bin3 E op t ox oy x y):=by
  unfold bin3
  cases askN E op t ox oy with
  |false=>exact cd_bin2 op t x y
  |true=>exact cd_oV _
theorem cd_un2(op:UnOp)(x:AV):CD (un2 op x):=by
  unfold un2
  split
  · exact(cd_asB x).bind fun b=>CD.ret _
  · exact cd_oV _
theorem cd_field2(t:TypeId)(x:AV)(i:Nat):CD (field2 E t x i):=by
  unfold field2
  split
  · split
    · exact(cd_asG x).bind fun cs=>CD.ret _
    · exact(cd_asG x).bind fun cs=>cd_oV _
  · exact CD.no fun _ h=>h
theorem cd_fieldA2(t:TypeId)(x:AV)(i:Nat):CD (fieldA2 E t x i):=by
  unfold fieldA2
  split
  · exact cd_asP x fun b q=>(cd_fN _).bind fun q=>CD.ret _
  · exact CD.no fun _ h=>h
theorem cd_ext(i:Nat)(x:AV):CD (ext i x):=(cd_asT x).bind fun _cs=>cd_oV _
theorem cd_load2(t:TypeId)(a:AV)(h:H):CD (load2 E t a h):=by
  have key:∀(b:P)(o n:Nat),CD (β:=List AV) (fun K=>h.readK b o n bad0 K):=fun b o n K hh=>by
    unfold Hp.readK at hh ⊢
    cases hr:asRow (h.at b) with
    |no=>rw[hr] at hh;exact(bad0_no hh).elim
    |row t m z e w=>
      rw[hr] at hh
      obtain⟨hc,hh⟩:=no_bool0 (show(Bool.rec bad0 (K (getCells t n o)) (Nat.ble (Nat.add o n) m):Prop) from hh)
      refine⟨_,hh,fun K' h'=>?_⟩
      show(Bool.rec bad0 (K' (getCells t n o)) (Nat.ble (Nat.add o n) m):Prop)
      rw[hc];exact h'
    |ext c m=>
      rw[hr] at hh
      obtain⟨hc,hh⟩:=no_bool0 (show(Bool.rec bad0 (K (funCells c n o)) (Nat.ble (Nat.add o n) m):Prop) from hh)
      refine⟨_,hh,fun K' h'=>?_⟩
      show(Bool.rec bad0 (K' (funCells c n o)) (Nat.ble (Nat.add o n) m):Prop)
      rw[hc];exact h'
  have key1:∀(b:P)(o:Nat),CD (β:=AV) (fun K=>h.read1K b o bad0 K):=fun b o K hh=>by
    unfold Hp.read1K at hh ⊢
    cases hr:asRow (h.at b) with
    |no=>rw[hr] at hh;exact(bad0_no hh).elim
    |row t m z e w=>
      rw[hr] at hh
      obtain⟨hc,hh⟩:=no_bool0 (show(Bool.rec bad0 (forceV (tget t o) K) (Nat.ble (Nat.add o 1) m):Prop) from hh)
      rw[forceV_eq] at hh
      refine⟨_,hh,fun K' h'=>?_⟩
      show(Bool.rec bad0 (forceV (tget t o) K') (Nat.ble (Nat.add o 1) m):Prop)
      rw[hc,forceV_eq];exact h'
    |ext c m=>
      rw[hr] at hh
      obtain⟨hc,hh⟩:=no_bool0 (show(Bool.rec bad0 (forceV (c o) K) (Nat.ble (Nat.add o 1) m):Prop) from hh)
      rw[forceV_eq] at hh
      refine⟨_,hh,fun K' h'=>?_⟩
      show(Bool.rec bad0 (forceV (c o) K') (Nat.ble (Nat.add o 1) m):Prop)
      rw[hc,forceV_eq];exact h'
  unfold load2
  split
  · split
    · exact cd_asP a (B:=fun b o K=>h.readK b o _ bad0 (fun l=>K (AV.agg l))) fun b o=>(key b o _).bind fun l=>CD.ret (AV.agg l)
    · exact cd_asP a fun b o=>key1 b o
  · exact CD.no fun _ h=>h
theorem cd_coD(d:TypeDesc)(v:AV):CD (coD d v):=by
  unfold coD
  split
  · exact(cd_asI _ _).bind fun n=>CD.ret _
  · exact(cd_asB _).bind fun n=>CD.ret _
  · exact cd_asS v fun l c=>CD.ret _
  · exact CD.ret _
theorem cd_coK(t:TypeId)(v:AV):CD (coK E t v):=by
  unfold coK
  split
  · exact cd_coD _ _
  · exact CD.ret _

/-- what an operation of kind 0 or 1 answers: a value, and the memory as it was; of kind 0, whatever the memory -/
def Det1(E:Env)(call:Caller Prop FT)(o:Op)(f:FT)(h:H)(k:KV):Prop:=∃v,k v h∧(∀k':KV,k' v h→exec2 E o call f h k')∧(kindOf E o=0→∀(h':H)(k':KV),k' v h'→exec2 E o call f h' k')
variable{call:Caller Prop FT}{f:FT}{h:H}{k:KV}
theorem det_pure{o:Op}{M:(AV→Prop)→Prop}(hm:CD M)(e:∀(h:H)(k:KV),exec2 E o call f h k=M (fun v=>k v h))(hg:exec2 E o call f h k):Det1 E call o f h k:=by
  rw[e] at hg
  obtain⟨v,hv,hk⟩:=hm _ hg
  exact⟨v,hv,fun k' h'=>by rw[e];exact hk _ h',fun _ h' k' hk'=>by rw[e];exact hk _ hk'⟩
theorem det_look{o:Op}{M:(AV→Prop)→Prop}(hm:CD M)(hk1:kindOf E o≠0)(e:∀(k:KV),exec2 E o call f h k=M (fun v=>k v h))(hg:exec2 E o call f h k):Det1 E call o f h k:=by
  rw[e] at hg
  obtain⟨v,hv,hk⟩:=hm _ hg
  exact⟨v,hv,fun k' h'=>by rw[e];exact hk _ h',fun h0=>(hk1 h0).elim⟩
theorem oK_same{o:Option (AV×H)}(hs:∀v h',o=some (v,h')→h'=h)(hg:oK o k):∃v,o=some (v,h)∧k v h:=by
  obtain⟨v,h',e,hk⟩:=oK_inv hg
  have:=hs v h' e
  subst this
  exact⟨v,e,hk⟩
theorem det_oK{o:Op}{A:H→Option (AV×H)}(e:∀(h:H)(k:KV),exec2 E o call f h k=oK (A h) k)(hs:∀h v h',A h=some (v,h')→h'=h)(hp:kindOf E o=0→∀h h' v,A h=some (v,h)→A h'=some (v,h'))(hg:exec2 E o call f h k):Det1 E call o f h k:=by
  rw[e] at hg
  obtain⟨v,hv,hk⟩:=oK_same (hs h) hg
  refine⟨v,hk,fun k' h'=>?_,fun h0 h' k' hk'=>?_⟩
  · rw[e,hv,oK_some];exact h'
  · rw[e,hp h0 h h' v hv,oK_some];exact hk'
end
end Go.Den
/-
  What only reckons, or only looks at memory: each operation.
-/
namespace Go.Den
open Go.RowKit

section
variable{E:Env}{h:H}
theorem withH_same{o:Option AV}{v:AV}{h':H}(e:withH h o=some (v,h')):h'=h:=(withH_inv e).2
theorem withH_any{o:Option AV}{v:AV}{h':H}(h2:H)(e:withH h o=some (v,h')):withH h2 o=some (v,h2):=by
  have:=(withH_inv e).1
  rw[this];rfl
theorem exNil_same{x v:AV}{h':H}(e:exNil x h=some (v,h')):h'=h∧∀h2:H,exNil x h2=some (v,h2):=by
  cases x<;>simp only[exNil] at e<;>cases e
  exact⟨rfl,fun _=>rfl⟩
theorem aggOut_same{n:Nat}{t:Option Tm}{v:AV}{h':H}(e:aggOut n h t=some (v,h')):h'=h∧∀h2:H,aggOut n h2 t=some (v,h2):=by
  cases t with
  |none=>cases e
  |some t=>cases e;exact⟨rfl,fun _=>rfl⟩
theorem exBuild_same{i:Option TI}{ps:List (Nat×AV)}{v:AV}{h':H}(e:exBuild E i ps h=some (v,h')):h'=h∧∀h2:H,exBuild E i ps h2=some (v,h2):=by
  cases i with
  |none=>cases e
  |some i=>
    have e:exBuildD E i.desc i ps h=some (v,h'):=e
    show _∧∀h2,exBuildD E i.desc i ps h2=_
    cases hd:i.desc<;>rw[hd] at e<;>simp only[exBuildD] at e ⊢<;>try cases e
    · obtain⟨ei,hei,e2⟩:=opt_inv e
      obtain⟨h1,h2⟩:=aggOut_same e2
      refine⟨h1,fun z=>?_⟩
      rw[hei];exact h2 z
    · exact aggOut_same e
theorem exIdxSl_same{t:TypeId}{b:P}{o n z i:Nat}{v:AV}{h':H}(e:exIdxSl E t b o n z i h=some (v,h')):h'=h∧∀h2:H,exIdxSl E t b o n z i h2=some (v,h2):=by
  obtain⟨a,ha,e2⟩:=opt_inv e
  obtain⟨ti,hti,e3⟩:=opt_inv e2
  obtain⟨hc,e4⟩:=bool_inv e3
  cases e4
  refine⟨rfl,fun h2=>?_⟩
  unfold exIdxSl withElem
  rw[ha]
  show(Option.rec none (fun ti=>_) (E.ty a):Option (AV×H))=_
  rw[hti]
  show(Bool.rec none _ _:Option (AV×H))=_
  rw[hc]
theorem exIdxArr_same{t:TypeId}{b:P}{o i:Nat}{v:AV}{h':H}(e:exIdxArr E t b o i h=some (v,h')):h'=h∧∀h2:H,exIdxArr E t b o i h2=some (v,h2):=by
  obtain⟨a,ha,e2⟩:=opt_inv e
  obtain⟨hc,e3⟩:=bool_inv e2
  obtain⟨ei,hei,e4⟩:=opt_inv e3
  cases e4
  refine⟨rfl,fun h2=>?_⟩
  unfold exIdxArr
  rw[ha]
  show(Bool.rec none (Option.rec none _ (E.ty a.2)) _:Option (AV×H))=_
  rw[hc,hei]
theorem exIndexAddr_same{t:TypeId}{x:AV}{i:Option Nat}{v:AV}{h':H}(e:exIndexAddr E t x i h=some (v,h')):h'=h∧∀h2:H,exIndexAddr E t x i h2=some (v,h2):=by
  cases i with
  |none=>cases e
  |some i=>
    cases x<;>try cases e
    · exact exIdxArr_same e
    · exact exIdxSl_same e
theorem exIdxAgg_same{t:TypeId}{cs:List AV}{i:Nat}{v:AV}{h':H}(e:exIdxAgg E t cs i h=some (v,h')):h'=h∧∀h2:H,exIdxAgg E t cs i h2=some (v,h2):=by
  obtain⟨a,ha,e2⟩:=opt_inv e
  obtain⟨hc,e3⟩:=bool_inv e2
  obtain⟨ei,hei,e4⟩:=opt_inv e3
  refine⟨withH_same e4,fun h2=>?_⟩
  unfold exIdxAgg
  rw[ha]
  show(Bool.rec none (Option.rec none _ (E.ty a.2)) _:Option (AV×H))=_
  rw[hc,hei]
  exact withH_any h2 e4
theorem exIndex_same{t:TypeId}{x:AV}{i:Option Nat}{v:AV}{h':H}(e:exIndex E t x i h=some (v,h')):h'=h∧∀h2:H,exIndex E t x i h2=some (v,h2):=by
  cases i with
  |none=>cases e
  |some i=>
    cases x<;>try cases e
    · obtain⟨ti,hti,e2⟩:=opt_inv e
      obtain⟨h1,e3⟩:=bool_inv e2
      obtain⟨h2,e4⟩:=bool_inv e3
      cases e4
      refine⟨rfl,fun z=>?_⟩
      rename_i l c
      show(Option.rec none (fun ti=>Bool.rec none (Bool.rec none (some (.int .u8 (.ofNat (strGet c i)),z)) (Nat.ble (Nat.add i 1) l)) (isStr ti.desc)) (E.ty t):Option (AV×H))=_
      rw[hti]
      show(Bool.rec none (Bool.rec none (some (.int .u8 (.ofNat (strGet c i)),z)) (Nat.ble (Nat.add i 1) l)) (isStr ti.desc):Option (AV×H))=_
      rw[h1,h2]
    · exact exIdxAgg_same e
theorem slice3_same{t:TypeId}{x:AV}{lo hi mx:Option (Option Nat)}{v:AV}{h':H}(e:slice3 E h t x lo hi mx=some (v,h')):h'=h∧(isDesc E isStrSl t=true→∀h2:H,slice3 E h2 t x lo hi mx=some (v,h2)):=by
  obtain⟨m,hm,e2⟩:=opt_inv e
  refine⟨withH_same e2,fun hd h2=>?_⟩
  have hs:sliceA E h t x lo hi m=sliceA E h2 t x lo hi m:=by
    unfold isDesc at hd
    unfold sliceA
    cases hti:E.ty t with
    |none=>rfl
    |some ti=>
      rw[hti] at hd
      have hd:isStrSl ti.desc=true:=hd
      show sliceD E h ti.desc x lo hi m=sliceD E h2 ti.desc x lo hi m
      cases hdd:ti.desc<;>rw[hdd] at hd<;>first|rfl|cases hd
  unfold slice3
  rw[hm]
  show withH h2 (sliceA E h2 t x lo hi m)=_
  rw[←hs]
  exact withH_any h2 e2
theorem convA_same{s d:TypeId}{x v:AV}{h':H}(hd:isDesc E isSlD d=false)(e:convA E h s d x=some (v,h')):h'=h:=by
  unfold convA at e
  obtain⟨i,hi,e⟩:=opt_inv e
  have hn:isSlD i.desc=false:=by unfold isDesc at hd;rw[hi] at hd;exact hd
  cases hdd:i.desc<;>rw[hdd] at e hn<;>simp only[convD] at e<;>try cases e
  · cases x<;>simp only[convInt] at e<;>cases e;rfl
  · cases x<;>simp only[convStr] at e<;>try cases e
    · rfl
    · rfl
    · unfold convNil at e
      obtain⟨ti,_,e⟩:=opt_inv e
      cases hq:ti.desc<;>rw[hq] at e<;>simp only at e<;>try cases e
      obtain⟨_,e⟩:=bool_inv e
      cases e;rfl
    · unfold convBytes at e
      obtain⟨ti,_,e⟩:=opt_inv e
      cases hq:ti.desc<;>rw[hq] at e<;>simp only at e<;>try cases e
      obtain⟨_,e⟩:=bool_inv e
      obtain⟨cs,_,e⟩:=opt_inv e
      obtain⟨l,_,e⟩:=opt_inv e
      cases e;rfl
  · cases x<;>simp only at e<;>try cases e
    · unfold srcP at e
      obtain⟨ti,_,e⟩:=opt_inv e
      cases hq:ti.desc<;>rw[hq] at e<;>simp only at e<;>cases e
      rfl
    · unfold toUnsafe at e
      cases hr:asRow (h.at ‹P›)<;>rw[hr] at e<;>try cases e
      obtain⟨ti,_,e⟩:=opt_inv e
      cases hq:ti.desc<;>rw[hq] at e<;>simp only at e<;>try cases e
      obtain⟨ei,_,e⟩:=opt_inv e
      obtain⟨_,e⟩:=bool_inv e
      cases e;rfl
  · cases x<;>simp only at e<;>try cases e
    · unfold srcU at e
      obtain⟨ti,_,e⟩:=opt_inv e
      cases hq:ti.desc<;>rw[hq] at e<;>simp only at e<;>cases e
      rfl
    · unfold srcU at e
      obtain⟨ti,_,e⟩:=opt_inv e
      cases hq:ti.desc<;>rw[hq] at e<;>simp only at e<;>try cases e
      unfold fromUnsafe at e
      cases hr:asRow (h.at ‹P›)<;>rw[hr] at e<;>try cases e
      obtain⟨ui,_,e⟩:=opt_inv e
      obtain⟨_,e⟩:=bool_inv e
      cases e;rfl
  · cases hn
theorem exLookup_same{t:TypeId}{m k v:AV}{ok:Bool}{h':H}(e:exLookup E t m k ok h=some (v,h')):h'=h:=by
  unfold exLookup withMap at e
  obtain⟨ti,_,e⟩:=opt_inv e
  cases hq:ti.desc<;>rw[hq] at e<;>simp only at e<;>try cases e
  obtain⟨p,_,e⟩:=opt_inv e
  unfold exLook3 at e
  obtain⟨r,_,e⟩:=opt_inv e
  cases r with
  |none=>
    obtain⟨ei,_,e⟩:=opt_inv e
    obtain⟨z,_,e⟩:=opt_inv e
    cases e;rfl
  |some p=>cases e;rfl
theorem biLen_same{ats:List TypeId}{x v:AV}{h':H}(e:biLen E ats x h=some (v,h')):h'=h:=by
  unfold biLen at e
  obtain⟨t,_,e⟩:=opt_inv e
  obtain⟨ti,_,e⟩:=opt_inv e
  cases hq:ti.desc<;>rw[hq] at e<;>simp only[lenD] at e<;>try cases e
  · cases x<;>simp only at e<;>cases e;rfl
  · obtain⟨p,_,e⟩:=opt_inv e;cases e;rfl
  · cases x<;>simp only at e<;>cases e<;>rfl
  · rfl
  · cases x<;>simp only at e<;>try cases e
    · rfl
    · obtain⟨p,_,e⟩:=opt_inv e;cases e;rfl
theorem look_builtin_same{b:Builtin}{ats:List TypeId}{args:List AV}{v:AV}{h':H}(hb:b=.cap∨b=.unsafeSliceData∨b=.min∨b=.max)(e:builtinA E b ats args h=some (v,h')):h'=h:=by
  unfold builtinA at e
  split at e
  · rename_i x
    rcases hb with rfl|rfl|rfl|rfl<;>simp only[bi1] at e<;>try cases e
    · obtain⟨_,e2⟩:=bool_inv (show(Bool.rec none (capV x h) (isSl E (getL ats 0)):Option (AV×H))=some (v,h') from e)
      clear e
      cases x<;>simp only[capV] at e2<;>try cases e2
      · rfl
      · rename_i t;cases t<;>simp only at e2<;>cases e2;rfl
    · cases x<;>simp only[biSliceData] at e<;>try cases e
      · rfl
      · split at e<;>cases e;rfl
  · rename_i x y
    rcases hb with rfl|rfl|rfl|rfl<;>simp only[bi2] at e<;>try cases e
    · exact withH_same e
    · exact withH_same e
  · cases e
variable{call:Caller Prop FT}{f:FT}{k:KV}
theorem det1{o:Op}(hk:kindOf E o=0∨kindOf E o=1)(hg:exec2 E o call f h k):Det1 E call o f h k:=by
  cases o<;>try (rcases hk with hk|hk<;>cases hk<;>done)
  case move x=>exact det_pure (M:=fun K=>K (eval' E x f)) (CD.ret _) (fun _ _=>rfl) hg
  case assign x=>exact det_pure (M:=fun K=>K (eval' E x f)) (CD.ret _) (fun _ _=>rfl) hg
  case binOp op t x y q=>exact det_pure (cd_bin3 op t x y (eval' E x f) (eval' E y f)) (fun _ _=>rfl) hg
  case unOp op t x=>exact det_pure (cd_un2 op (eval' E x f)) (fun _ _=>rfl) hg
  case fieldAddr t x i=>exact det_pure (cd_fieldA2 t (eval' E x f) i) (fun _ _=>rfl) hg
  case field t x i=>exact det_pure (cd_field2 t (eval' E x f) i) (fun _ _=>rfl) hg
  case extract x i=>exact det_pure (cd_ext i (eval' E x f)) (fun _ _=>rfl) hg
  case makeFunc fn a b=>exact det_pure (M:=fun K=>K (.func fn (evalL E f a.toList) (evalL E f b.toList))) (CD.ret _) (fun _ _=>rfl) hg
  case makeInterface t x=>
    refine det_pure (M:=fun K=>match E.ty t with
      |some ti=>match isIface ti.desc with
        |true=>False
        |false=>K (.iface t (eval' E x f))
      |none=>False) ?_ (fun _ _=>rfl) hg
    split
    · split
      · exact CD.no fun _ h=>h
      · exact CD.ret _
    · exact CD.no fun _ h=>h
  case pick c a b=>
    refine det_pure (M:=fun K=>(BoolV.rec False (fun t=>Bool.rec (forceV (eval (CP E) b f) K) (forceV (eval (CP E) a f) K) t) (asBool' (eval (CP E) c f)):Prop)) ?_ (fun _ _=>rfl) hg
    cases asBool' (eval (CP E) c f) with
    |no=>exact CD.no fun _ h=>h
    |is t=>cases t<;>exact CD.of_eq (fun K=>(forceV_eq _ K).symm) (CD.ret _)
  case nilCheck x=>exact det_oK (A:=fun h=>exNil (eval' E x f) h) (fun _ _=>rfl) (fun _ _ _ e=>(exNil_same e).1) (fun _ _ h2 _ e=>(exNil_same e).2 h2) hg
  case build t ps=>exact det_oK (A:=fun h=>exBuild E (E.ty t) (evalParts (CP E) f ps.toList) h) (fun _ _=>rfl) (fun _ _ _ e=>(exBuild_same e).1) (fun _ _ h2 _ e=>(exBuild_same e).2 h2) hg
  case index t x i=>
    have hg:index2 E t (eval' E x f) (eval' E i f) h k:=hg
    have e2:∀(h:H)(k:KV),exec2 E (.index t x i) call f h k=index2 E t (eval' E x f) (eval' E i f) h k:=fun _ _=>rfl
    cases hti:E.ty t with
    |none=>unfold index2 at hg;rw[hti] at hg;exact hg.elim
    |some ti=>
      cases hs:isStr ti.desc with
      |true=>
        refine det_pure (M:=fun K=>asS (eval' E x f) (fun l c=>natV (eval' E i f) (fun n=>idxS l c n (fun b=>K (AV.int .u8 (.ofNat b)))))) ?_ (fun h k=>?_) hg
        · exact cd_asS _ fun l c=>(cd_natV _).bind fun n=>CD.ite ((cd_fN _).bind fun b=>CD.ret _)
        · rw[e2];unfold index2;rw[hti];simp only[hs]
      |false=>
        refine det_oK (A:=fun h=>exIndex E t (eval' E x f) (natOf (eval' E i f)) h) (fun h k=>?_) (fun _ _ _ e=>(exIndex_same e).1) (fun _ _ h2 _ e=>(exIndex_same e).2 h2) hg
        rw[e2];unfold index2;rw[hti];simp only[hs]
  case indexAddr t x i=>
    have hg:indexA2 E t (eval' E x f) (eval' E i f) h k:=hg
    have e2:∀(h:H)(k:KV),exec2 E (.indexAddr t x i) call f h k=indexA2 E t (eval' E x f) (eval' E i f) h k:=fun _ _=>rfl
    cases he:elemOf' E t with
    |some e=>
      cases hei:E.ty e with
      |none=>unfold indexA2 at hg;rw[he] at hg;simp only[hei] at hg
      |some ei=>
        refine det_pure (M:=fun K=>natV (eval' E i f) (fun n=>elemA ei.size n (eval' E x f) K)) ((cd_natV _).bind fun n=>cd_elemA _ _ _) (fun h k=>?_) hg
        rw[e2];unfold indexA2;rw[he];simp only[hei]
    |none=>
      refine det_oK (A:=fun h=>exIndexAddr E t (eval' E x f) (natOf (eval' E i f)) h) (fun h k=>?_) (fun _ _ _ e=>(exIndexAddr_same e).1) (fun _ _ h2 _ e=>(exIndexAddr_same e).2 h2) hg
      rw[e2];unfold indexA2;rw[he]
  case slice t x lo hi mx=>
    have hg:slice2 E t (eval' E x f) (lo.map (fun x=>eval' E x f)) (hi.map (fun x=>eval' E x f)) (mx.map (fun x=>eval' E x f)) h k:=hg
    have e2:∀(h:H)(k:KV),exec2 E (.slice t x lo hi mx) call f h k=slice2 E t (eval' E x f) (lo.map (fun x=>eval' E x f)) (hi.map (fun x=>eval' E x f)) (mx.map (fun x=>eval' E x f)) h k:=fun _ _=>rfl
    cases hti:E.ty t with
    |none=>unfold slice2 at hg;rw[hti] at hg;exact hg.elim
    |some ti=>
      cases hs:isStr ti.desc with
      |true=>
        cases hm:mx.map (fun x=>eval' E x f) with
        |some q=>unfold slice2 at hg;rw[hti] at hg;simp only[hs,hm] at hg
        |none=>
          have cb:∀(o:Option AV)(d:Nat),CD (bnd2 o d):=fun o d=>by
            cases o with
            |none=>exact CD.ret d
            |some v=>exact cd_natV v
          refine det_pure (M:=fun K=>asS (eval' E x f) (fun l c=>bnd2 (hi.map (fun x=>eval' E x f)) l (fun hi=>bnd2 (lo.map (fun x=>eval' E x f)) 0 (fun lo=>cutS l c lo hi (fun n d=>K (AV.str n d)))))) ?_ (fun h k=>?_) hg
          · exact cd_asS _ fun l c=>(cb _ _).bind fun a=>(cb _ _).bind fun b=>CD.ite ((cd_fN _).bind fun n=>(cd_fN _).bind fun d=>CD.ret _)
          · rw[e2];unfold slice2;rw[hti];simp only[hs,hm]
      |false=>
        have e3:∀(h:H)(k:KV),exec2 E (.slice t x lo hi mx) call f h k=oK (slice3 E h t (eval' E x f) ((lo.map (fun x=>eval' E x f)).map natOf) ((hi.map (fun x=>eval' E x f)).map natOf) ((mx.map (fun x=>eval' E x f)).map natOf)) k:=fun h k=>by
          rw[e2];unfold slice2;rw[hti];simp only[hs]
        refine det_oK (A:=fun h=>slice3 E h t (eval' E x f) ((lo.map (fun x=>eval' E x f)).map natOf) ((hi.map (fun x=>eval' E x f)).map natOf) ((mx.map (fun x=>eval' E x f)).map natOf)) e3 (fun _ _ _ e=>(slice3_same e).1) (fun h0 _ h2 _ e=>(slice3_same e).2 ?_ h2) hg
        have h0:(Bool.rec 1 0 (isDesc E isStrSl t):Nat)=0:=h0
        cases hd:isDesc E isStrSl t with
        |true=>rfl
        |false=>rw[hd] at h0;cases h0
  case convert s d x=>
    have hg:conv2 E s d (eval' E x f) h k:=hg
    have e2:∀(h:H)(k:KV),exec2 E (.convert s d x) call f h k=conv2 E s d (eval' E x f) h k:=fun _ _=>rfl
    cases hti:E.ty d with
    |none=>unfold conv2 at hg;rw[hti] at hg;exact hg.elim
    |some ti=>
      have gen:(∀(h:H)(k:KV),exec2 E (.convert s d x) call f h k=oK (convA E h s d (eval' E x f)) k)→band (isIntTy E s) (isIntTy E d)=false→Det1 E call (.convert s d x) f h k:=fun e3 hb=>by
        have hk':kindOf E (.convert s d x)=(Bool.rec 1 2 (isDesc E isSlD d):Nat):=by
          show(Bool.rec (Bool.rec 1 2 (isDesc E isSlD d)) 0 (band (isIntTy E s) (isIntTy E d)):Nat)=_
          rw[hb]
        have hsl:isDesc E isSlD d=false:=by
          cases hd:isDesc E isSlD d with
          |false=>rfl
          |true=>rw[hk',hd] at hk;rcases hk with hk|hk<;>cases hk
        refine det_oK (A:=fun h=>convA E h s d (eval' E x f)) e3 (fun _ _ _ e=>convA_same hsl e) (fun h0=>?_) hg
        rw[hk',hsl] at h0;cases h0
      cases hd:ti.desc with
      |int kd=>
        cases hs:isIntTy E s with
        |true=>
          refine det_pure (M:=fun K=>asIx (eval' E x f) (fun n=>fI (wrap kd n) (fun n=>K (AV.int kd n)))) ((cd_asIx _).bind fun n=>(cd_fI _).bind fun n=>CD.ret _) (fun h k=>?_) hg
          rw[e2];unfold conv2;rw[hti];simp only[hd,convD2,hs]
        |false=>
          refine gen (fun h k=>?_) (by rw[hs];rfl)
          rw[e2];unfold conv2;rw[hti];simp only[hd,convD2,hs]
      |_=>
        refine gen (fun h k=>?_) ?_
        · rw[e2];unfold conv2;rw[hti];simp only[hd,convD2]
        · rw[show isIntTy E d=false from by unfold isIntTy;rw[hti];simp only[hd,isIntD]]
          cases isIntTy E s<;>rfl
  case load t a=>exact det_look (cd_load2 t (eval' E a f) h) (fun h0=>nomatch (show(1:Nat)=0 from h0)) (fun _=>rfl) hg
  case lookup t m i b=>exact det_oK (A:=fun h=>exLookup E t (eval' E m f) (eval' E i f) b h) (fun _ _=>rfl) (fun _ _ _ e=>exLookup_same e) (fun h0=>nomatch (show(1:Nat)=0 from h0)) hg
  case call c=>
    obtain⟨callee,args,ats⟩:=c
    cases callee with
    |value v=>rcases hk with hk|hk<;>cases hk
    |invoke r m=>rcases hk with hk|hk<;>cases hk
    |builtin b=>
      have e2:∀(h:H)(k:KV),exec2 E (.call ⟨.builtin b,args,ats⟩) call f h k=builtin2 E b ats.toList (evalL E f args.toList) h k:=fun _ _=>rfl
      have look:(b=.cap∨b=.unsafeSliceData∨b=.min∨b=.max)→Det1 E call (.call ⟨.builtin b,args,ats⟩) f h k:=fun hb=>by
        refine det_oK (A:=fun h=>builtinA E b ats.toList (evalL E f args.toList) h) (fun h k=>?_) (fun _ _ _ e=>look_builtin_same hb e) (fun h0=>?_) hg
        · rcases hb with rfl|rfl|rfl|rfl<;>rfl
        · rcases hb with rfl|rfl|rfl|rfl<;>cases h0
      cases b<;>first|(rcases hk with hk|hk<;>cases hk<;>done)|exact look (.inl rfl)|exact look (.inr (.inl rfl))|exact look (.inr (.inr (.inl rfl)))|exact look (.inr (.inr (.inr rfl)))|skip
      have hg:builtin2 E .len ats.toList (evalL E f args.toList) h k:=hg
      have hg':=hg
      unfold builtin2 at hg'
      simp only at hg'
      split at hg'
      · rename_i x hx
        have e3:∀(h:H)(k:KV),exec2 E (.call ⟨.builtin .len,args,ats⟩) call f h k=len2 E ats.toList x h k:=fun h k=>by
          rw[e2];unfold builtin2;rw[hx]
        unfold len2 at hg'
        split at hg'
        · rename_i t ht
          split at hg'
          · rename_i ti hti
            have e4:∀(h:H)(k:KV),exec2 E (.call ⟨.builtin .len,args,ats⟩) call f h k=lenD2 E ats.toList ti.desc x h k:=fun h k=>by
              rw[e3];unfold len2;rw[ht];simp only[hti]
            have hkk:∀t' r,ats.toList=t'::r→kindOf E (.call ⟨.builtin .len,args,ats⟩)=(Bool.rec 1 0 (isDesc E isStrSl t'):Nat):=fun t' r e=>by
              show(match ats.toList with
                |t::_=>(Bool.rec 1 0 (isDesc E isStrSl t):Nat)
                |[]=>1)=_
              rw[e]
            unfold lenD2 at hg'
            split at hg'
            · rename_i hd
              refine det_pure (M:=fun K=>asS x (fun l _=>K (AV.int .i64 (.ofNat l)))) (cd_asS _ fun l c=>CD.ret _) (fun h k=>?_) hg
              rw[e4,hd];rfl
            · rename_i hd
              refine det_pure (M:=fun K=>lenV x (fun n=>K (AV.int .i64 (.ofNat n)))) ((cd_lenV _).bind fun n=>CD.ret _) (fun h k=>?_) hg
              rw[e4,hd];rfl
            · rename_i hn1 hn2
              refine det_oK (A:=fun h=>biLen E ats.toList x h) (fun h k=>?_) (fun _ _ _ e=>biLen_same e) (fun h0=>?_) hg
              · rw[e4];unfold lenD2
                split
                · rename_i hd;exact absurd hd hn1
                · rename_i e' hd;exact absurd hd (hn2 e')
                · rfl
              · cases hats:ats.toList with
                |nil=>rw[hats] at ht;cases ht
                |cons t' r=>
                  rw[hats] at ht
                  have:t'=t:=Option.some.inj (show some t'=some t from ht)
                  subst this
                  rw[hkk t' r hats] at h0
                  have hsf:isDesc E isStrSl t'=false:=by
                    unfold isDesc;rw[hti]
                    show isStrSl ti.desc=false
                    cases hdd:ti.desc<;>first|rfl|(exact absurd hdd hn1)|(exact absurd hdd (hn2 _))
                  rw[hsf] at h0;cases h0
          · exact hg'.elim
        · exact hg'.elim
      · exact hg'.elim
end
end Go.Den
/-
  Regions whose order is drawn: frames, and what is known of operations that were done ahead.
-/
namespace Go.Den
open Go.RowKit
open Classical

section
variable(ops:Array Oper)
def dstOf(i:Nat):Option Tmp:=(ops[i]?).bind (·.dst)
/-- the frame when those of S among the first n were done, with what they gave -/
noncomputable def FS (v:Nat→AV) (f0:FT) (S:Nat→Bool):Nat→FT
  |0=>f0
  |n+1=>if S n=true then fput (FS v f0 S n) (dstOf ops n) (v n) else FS v f0 S n
def upd{α:Type}(v:Nat→α)(i:Nat)(a:α):Nat→α:=fun j=>if j=i then a else v j
/-- one stands ahead of another -/
inductive Anc:Nat→Nat→Prop
  |edge {i:Nat} {o:Oper} {e:Edge}:ops[i]? =some o→e∈o.after→Region.binds .any e=true→Anc i e.on
  |trans {i j k:Nat}:Anc i j→Anc j k→Anc i k
variable{ops}
theorem fput_get(f:FT)(d:Option Tmp)(a:AV)(t:Nat):fput f d a t=if d=some t then a else f t:=by
  cases d with
  |none=>simp[fput]
  |some d=>
    show fset f d a t=_
    rw[fset_eq]
    by_cases e:t=d
    · subst e;simp
    · rw[if_neg e,if_neg (fun h=>e (Option.some.inj h).symm)]
theorem FS_ext{v v':Nat→AV}{f0:FT}{S X:Nat→Bool}{t:Nat}:∀{n:Nat},(∀j,j<n→dstOf ops j=some t→S j=X j∧(S j=true→v j=v' j))→FS ops v f0 S n t=FS ops v' f0 X n t
  |0,_=>rfl
  |n+1,h=>by
    have ih:=FS_ext (f0:=f0) (n:=n) fun j hj=>h j (Nat.lt_succ_of_lt hj)
    have key:∀(w:Nat→AV)(Y:Nat→Bool),FS ops w f0 Y (n+1) t=if Y n=true∧dstOf ops n=some t then w n else FS ops w f0 Y n t:=fun w Y=>by
      simp only[FS]
      by_cases hy:Y n=true
      · rw[if_pos hy,fput_get];simp[hy]
      · rw[if_neg hy];simp[hy]
    rw[key,key]
    by_cases hd:dstOf ops n=some t
    · obtain⟨h1,h2⟩:=h n (Nat.lt_succ_self n) hd
      rw[←h1]
      by_cases hs:S n=true
      · simp[hs,hd,h2 hs]
      · simp[hs,ih]
    · simp[hd,ih]
theorem fput_comm{f:FT}{d e:Option Tmp}{a b:AV}(h:d=e→d=none):fput (fput f d a) e b=fput (fput f e b) d a:=by
  funext t
  simp only[fput_get]
  by_cases h1:d=some t
  · by_cases h2:e=some t
    · have:=h (h1.trans h2.symm);rw[this] at h1;cases h1
    · simp[h1,h2]
  · simp[h1]
theorem FS_insert {v : Nat → AV} {f0 : FT} {S : Nat → Bool} {i : Nat} {a : AV} (hi : S i = false) : ∀ {n : Nat}, i < n → (∀ j, i < j → j < n → S j = true → dstOf ops j = dstOf ops i → dstOf ops i = none) →
    FS ops (upd v i a) f0 (upd S i true) n = fput (FS ops v f0 S n) (dstOf ops i) a
  | 0, h, _ => absurd h (Nat.not_lt_zero _)
  | n + 1, h, hn => by
    by_cases e : i = n
    · subst e
      have hlow : FS ops (upd v i a) f0 (upd S i true) i = FS ops v f0 S i := by
        funext t
        refine FS_ext fun j hj _ => ?_
        have : j ≠ i := by omega
        simp [upd, this]
      simp only [FS, hlow]
      simp [upd, hi]
    · have hlt : i < n := by omega
      have ih := FS_insert (v := v) (f0 := f0) (a := a) hi hlt fun j h1 h2 => hn j h1 (by omega)
      have hne : n ≠ i := fun h => e h.symm
      simp only [FS, ih]
      have hu : upd S i true n = S n := by simp [upd, hne]
      have hv : upd v i a n = v n := by simp [upd, hne]
      rw [hu, hv]
      by_cases hs : S n = true
      · rw [if_pos hs, if_pos hs]
        exact fput_comm fun h' => hn n (by omega) (by omega) hs h'.symm
      · rw [if_neg hs, if_neg hs]

/-- what is asked of a region's operations -/
structure Wf(P:Program)(E:Env)(N G:Nat)(ops:Array Oper):Prop where
  lt:∀i o e,ops[i]? =some o→e∈o.after→Region.binds .any e=true→e.on<i
  apart:∀i j oi oj,ops[i]? =some oi→ops[j]? =some oj→i≠j→Anc ops i j∨Anc ops j i∨(oi.apart ops oj=true)
  guard:∀i o g w,ops[i]? =some o→o.guard=some (g,w)→Anc ops i g∧∃gd,dstOf ops g=some gd∧∀j,dstOf ops j=some gd→j=g
  ok:∀o,o∈ops→okOper P E N G o=true
variable{P:Program}{E:Env}{N G:Nat}{D:List Deferred}
theorem Anc.lt(wf:Wf P E N G ops){i j:Nat}(h:Anc ops i j):j<i:=by
  induction h with
  |edge ho he hb=>exact wf.lt _ _ _ ho he hb
  |trans _ _ h1 h2=>omega
def DC(ops:Array Oper)(S:Nat→Bool):Prop:=∀i o e,S i=true→ops[i]? =some o→e∈o.after→Region.binds .any e=true→S e.on=true
theorem DC.anc{S:Nat→Bool}(h:DC ops S){i j:Nat}(hi:S i=true)(ha:Anc ops i j):S j=true:=by
  induction ha with
  |edge ho he hb=>exact h _ _ _ hi ho he hb
  |trans _ _ h1 h2=>exact h2 (h1 hi)
/-- all that stands ahead of i was done -/
def Rdy(ops:Array Oper)(S:Nat→Bool)(i:Nat):Prop:=∀o e,ops[i]? =some o→e∈o.after→Region.binds .any e=true→S e.on=true
theorem Rdy.anc{S:Nat→Bool}{i:Nat}(h:Rdy ops S i)(dc:DC ops S){j:Nat}(ha:Anc ops i j):S j=true:=by
  have key:∀{i j:Nat},Anc ops i j→Rdy ops S i→S j=true:=by
    intro i j h
    induction h with
    |edge ho he hb=>intro r;exact r _ _ ho he hb
    |trans _ h2 ih1 _=>intro r;exact dc.anc (ih1 r) h2
  exact key ha h
theorem DC.insert{S:Nat→Bool}(dc:DC ops S){i:Nat}(r:Rdy ops S i):DC ops (upd S i true):=by
  intro j o e hj ho he hb
  have:S e.on=true:=by
    by_cases h:j=i
    · subst h;exact r o e ho he hb
    · refine dc j o e ?_ ho he hb
      simpa[upd,h] using hj
  simp only[upd]
  split
  · rfl
  · exact this
noncomputable def ancB (ops:Array Oper) (i:Nat):Nat→Bool:=fun j=>decide (Anc ops i j)
/-- what an operation sees: the frame of those ahead of it -/
noncomputable def FA (ops:Array Oper) (v:Nat→AV) (f0:FT) (i:Nat):FT:=FS ops v f0 (ancB ops i) ops.size
theorem dst_inv{j t:Nat}(h:dstOf ops j=some t):∃o,ops[j]? =some o∧o.dst=some t:=by
  unfold dstOf at h
  cases ho:ops[j]? with
  |none=>rw[ho] at h;cases h
  |some o=>rw[ho] at h;exact⟨o,rfl,h⟩
theorem FA_agree(wf:Wf P E N G ops){v:Nat→AV}{f0:FT}{S:Nat→Bool}(dc:DC ops S){i:Nat}{o:Oper}(ho:ops[i]? =some o)(hi:S i=false)(r:Rdy ops S i){t:Nat}(ht:t∈o.looksAt ops):FS ops v f0 S ops.size t=FA ops v f0 i t:=by
  refine FS_ext fun j hj hd=>⟨?_,fun _=>rfl⟩
  obtain⟨oj,hoj,hdj⟩:=dst_inv hd
  show S j=decide (Anc ops i j)
  by_cases hs:S j=true
  · rw[hs]
    symm;rw[decide_eq_true_eq]
    have hne:i≠j:=fun e=>by rw[e,hs] at hi;cases hi
    rcases wf.apart i j o oj ho hoj hne with h|h|h
    · exact h
    · have:=dc.anc hs h;rw[hi] at this;cases this
    · exact absurd ht ((Oper.apart_spec h).2.2 t hdj)
  · have:¬Anc ops i j:=fun h=>hs (r.anc dc h)
    rw[decide_eq_false this]
    simpa using hs
theorem FS_put(wf:Wf P E N G ops){v:Nat→AV}{f0:FT}{S:Nat→Bool}(dc:DC ops S){i:Nat}{o:Oper}(ho:ops[i]? =some o)(hi:S i=false){a:AV}:FS ops (upd v i a) f0 (upd S i true) ops.size=fput (FS ops v f0 S ops.size) o.dst a:=by
  have hlt:i<ops.size:=(Array.getElem?_eq_some_iff.1 ho).1
  have hd:dstOf ops i=o.dst:=by unfold dstOf;rw[ho];rfl
  rw[FS_insert hi hlt,hd]
  intro j hij hj hs he
  have hoj:ops[j]? =some ops[j]:=Array.getElem?_eq_getElem hj
  rcases wf.apart i j o ops[j] ho hoj (by omega) with h|h|h
  · have:=h.lt wf;omega
  · have:=dc.anc hs h;rw[hi] at this;cases this
  · cases hdi:dstOf ops i with
    |none=>rfl
    |some d=>
      rw[hdi] at he
      obtain⟨oj,hoj',hdj⟩:=dst_inv he
      rw[hoj] at hoj';cases hoj'
      exact absurd hdj ((Oper.apart_spec h).2.1 d (by rw[←hd,hdi]))
/-- a guard's temporary has what the guard gave -/
theorem FS_guard{v:Nat→AV}{f0:FT}{S:Nat→Bool}{g gd:Nat}(hd:dstOf ops g=some gd)(hu:∀j,dstOf ops j=some gd→j=g)(hs:S g=true):FS ops v f0 S ops.size gd=v g:=by
  obtain⟨o,ho,_⟩:=dst_inv hd
  have hlt:g<ops.size:=(Array.getElem?_eq_some_iff.1 ho).1
  have key:∀n,g<n→FS ops v f0 S n gd=v g:=by
    intro n
    induction n with
    |zero=>intro h;omega
    |succ n ih=>
      intro h
      simp only[FS]
      by_cases e:g=n
      · subst e;rw[if_pos hs,fput_get,if_pos hd]
      · have hne:dstOf ops n≠some gd:=fun h=>e (hu n h).symm
        by_cases hsn:S n=true
        · rw[if_pos hsn,fput_get,if_neg hne];exact ih (by omega)
        · rw[if_neg hsn];exact ih (by omega)
  exact key _ hlt

/-- does the guard hold? does it not? -/
def Wanted(v:Nat→AV)(o:Oper):Prop:=∀g w,o.guard=some (g,w)→v g=.bool w
def Unwanted(v:Nat→AV)(o:Oper):Prop:=∃g w,o.guard=some (g,w)∧(v g=.undef∨v g=.bool (!w))
/-- it was done ahead: what it gives, whenever it is done -/
structure Did(ops:Array Oper)(E:Env)(call:Caller Prop FT)(f0:FT)(v:Nat→AV)(h:H)(i:Nat)(o:Oper):Prop where
  sub:∃fi:FT,(∀t∈o.looksAt ops,fi t=.top∨fi t=FA ops v f0 i t)∧kindOf E o.op≤1∧(∀k:KV,k (v i) h→exec2 E o.op call fi h k)∧(kindOf E o.op=0→∀(h':H)(k:KV),k (v i) h'→exec2 E o.op call fi h' k)
def Fact(ops:Array Oper)(E:Env)(call:Caller Prop FT)(f0:FT)(v:Nat→AV)(h:H)(i:Nat):Prop:=
  ∃o,ops[i]? =some o∧((Wanted v o∧Did ops E call f0 v h i o)∨(Unwanted v o∧v i=.undef))
theorem FA_congr{v v':Nat→AV}{f0:FT}{i:Nat}(h:∀j,Anc ops i j→v j=v' j):FA ops v f0 i=FA ops v' f0 i:=by
  funext t
  refine FS_ext fun j _ _=>⟨rfl,fun hs=>h j (by simpa[ancB] using hs)⟩
theorem Fact.congr(wf:Wf P E N G ops){call:Caller Prop FT}{f0:FT}{v v':Nat→AV}{h:H}{i:Nat}(hv:∀j,j=i∨Anc ops i j→v j=v' j)(hf:Fact ops E call f0 v h i):Fact ops E call f0 v' h i:=by
  obtain⟨o,ho,hf⟩:=hf
  refine⟨o,ho,?_⟩
  rcases hf with⟨hw,⟨fi,h1,h2,h3,h4⟩⟩|⟨⟨g,w,hg,hu⟩,hvi⟩
  · refine .inl ⟨fun g w hg=>?_,⟨fi,fun t ht=>?_,h2,?_,?_⟩⟩
    · rw[←hv g (.inr (wf.guard i o g w ho hg).1)];exact hw g w hg
    · rw[←FA_congr fun j hj=>hv j (.inr hj)];exact h1 t ht
    · rw[←hv i (.inl rfl)];exact h3
    · rw[←hv i (.inl rfl)];exact h4
  · refine .inr ⟨⟨g,w,hg,?_⟩,?_⟩
    · rw[←hv g (.inr (wf.guard i o g w ho hg).1)];exact hu
    · rw[←hv i (.inl rfl)];exact hvi

/-- in the model: an operation that was done ahead -/
theorem did_wp{ro:Option Nat}(wf:Wf P E N G ops)(ok:EnvOk P E){call:Caller Prop FT}(hcall:CallOk P (CP E) G (fun p=>p) call){Q:Exit→Act→World→Prop}{f0:FT}{v:Nat→AV}{h:H}{i:Nat}(hf:Fact ops E call f0 v h i)
    {S:Nat→Bool} (dc:DC ops S) (hi:S i=false) (r:Rdy ops S i) {μ:Mu} {a:Act} {w:World} (fr:FR μ N D (FS ops v f0 S ops.size) a) (s:Sim μ h w) (gl:Globs μ G) {next:Act→World→Prop}
    (hn:∀(μ':Mu)(a':Act)(w':World),FR μ' N D (FS ops v f0 (upd S i true) ops.size) a'→Sim μ' h w'→Ext' μ h w μ' h w'→next a' w'):wpOpIn (Fo ro) 0 P ops Q i next a w:=by
  obtain⟨o,ho,hf⟩:=hf
  have hok:=wf.ok o (Array.mem_of_getElem? ho)
  simp only[okOper,Bool.and_eq_true] at hok
  have hput:∀b,FS ops (upd v i b) f0 (upd S i true) ops.size=fput (FS ops v f0 S ops.size) o.dst b:=fun b=>FS_put wf dc ho hi
  have hself:upd v i (v i)=v:=by funext j;simp only[upd];split<;>simp_all
  have hput:=hput (v i)
  rw[hself] at hput
  have hguard:∀g w',o.guard=some (g,w')→∃gd,((ops[g]?).bind (·.dst))=some gd∧VR μ (v g) (a.tmps.getD gd undef)∧gd<a.tmps.size:=fun g w' hg=>by
    obtain⟨hga,gd,hd,hu⟩:=wf.guard i o g w' ho hg
    refine⟨gd,hd,?_,?_⟩
    · have:=fr.get gd
      rw[FS_guard hd hu (r.anc dc hga)] at this
      exact this
    · obtain⟨og,hog,hdg⟩:=dst_inv hd
      have:=wf.ok og (Array.mem_of_getElem? hog)
      simp only[okOper,Bool.and_eq_true] at this
      rw[hdg] at this
      exact Nat.lt_of_lt_of_le (by simpa[okDst] using this.1) fr.size
  unfold wpOpIn
  rw[ho]
  simp only
  rcases hf with⟨hw,⟨fi,h1,h2,h3,_⟩⟩|⟨⟨g,w',hg,hu⟩,hvi⟩
  · have hwant:Region.wanted o (yielded ops a.tmps)=true:=by
      unfold Region.wanted
      cases hg:o.guard with
      |none=>rfl
      |some p=>
        obtain⟨g,w'⟩:=p
        obtain⟨gd,hd,hv,hlt⟩:=hguard g w' hg
        rw[hw g w' hg] at hv
        have hv:a.tmps.getD gd undef=.bool w':=hv
        show(yielded ops a.tmps g==some w')=true
        rw[yielded_eq,hd]
        show(yb (a.tmps[gd]?)==some w')=true
        have:a.tmps[gd]? =some (.bool w'):=by
          rw[Array.getElem?_eq_getElem hlt] at*
          rw[Array.getD_eq_getD_getElem?,Array.getElem?_eq_getElem hlt] at hv
          exact congrArg some hv
        rw[this];simp[yb]
    rw[if_pos hwant]
    have hex:=exec2_of (h3 (fun v' h'=>v'=v i∧h'=h) ⟨rfl,rfl⟩)
    have hopn:∀x∈o.op.operands.toList,okOpnd G x=true:=by
      have hop:=hok.2
      simp only[okOp,Bool.and_eq_true] at hop
      exact fun x hx=>(List.all_eq_true.1 hop.1) x hx
    refine exec_wp (C:=CP E) (good:=fun p=>p) (fun h=>h) ok hcall hok.2 (fun x hx=>?_) s gl hex ?_
    · refine eval_ok (C:=CP E) gl (hopn x hx) fun t ht=>?_
      subst ht
      have htl:t∈o.looksAt ops:=List.mem_append_left _ (List.mem_filterMap.2 ⟨.tmp t,hx,rfl⟩)
      show VR μ (fi t) (a.tmps.getD t undef)
      rcases h1 t htl with h|h
      · rw[h];trivial
      · rw[h,←FA_agree wf dc ho hi r htl];exact fr.get t
    · intro μ' av h' u w' s' x' hv hk
      obtain⟨e1,e2⟩:=hk
      subst e1
      subst e2
      refine hn μ' _ w' ?_ s' x'
      rw[hput]
      exact(fr.mono x'.le).put hok.1 hv
  · have hwant:Region.wanted o (yielded ops a.tmps)=false:=by
      unfold Region.wanted
      rw[hg]
      obtain⟨gd,hd,hv,hlt⟩:=hguard g w' hg
      show(yielded ops a.tmps g==some w')=false
      rw[yielded_eq,hd]
      show(yb (a.tmps[gd]?)==some w')=false
      have hget:a.tmps[gd]? =some (a.tmps.getD gd undef):=by
        rw[Array.getD_eq_getD_getElem?,Array.getElem?_eq_getElem hlt];rfl
      rcases hu with hu|hu
      · rw[hu] at hv
        obtain⟨vs,hvs,hl⟩:=hv
        rw[hget,hvs];rfl
      · rw[hu] at hv
        have hv:a.tmps.getD gd undef=.bool (!w'):=hv
        rw[hget,hv];cases w'<;>rfl
    rw[if_neg (by rw[hwant];simp)]
    refine⟨fun _ _=>trivial,?_⟩
    refine hn μ _ w ?_ s (.refl _ _ _)
    rw[hput,hvi]
    exact fr.put hok.1 (VR.undef μ)
end
end Go.Den
/-
  Operations that lay a new block: the interpreter may go ahead of the model with them.
-/
namespace Go.Den
open Go.RowKit
open Classical

section
variable{P:Program}{E:Env}{N G:Nat}{D:List Deferred}{ops:Array Oper}
/-- what it does in the model, whenever it is done -/
def FreshOp(P:Program)(E:Env)(o:Op)(f:FT)(u:Go.Den.P→AV)(ob:Ob FT):Prop:=
  ∀{μ:Mu}{a:Act},(∀x∈o.operands.toList,VR μ (eval' E x f) (a.eval x))→∃sem:Sem Value,(∀q:Oper,q.op=o→execOp a.eval q=(do pure (.value (←sem))))∧Fresh P μ sem u ob
theorem fresh_of(ok:EnvOk P E){o:Op}(hf:isFresh o=true){call:Caller Prop FT}{f:FT}{h:H}{k:KV}(hg:exec2 E o call f h k):∃u ob,k (u h.next) (h.new ob)∧FreshOp P E o f u ob:=by
  cases o<;>try cases hf
  case alloc e=>
    have hg:(match E.ty e with
      |some i=>h.newK (rowOf e i.zero) (fun b h=>k (.ptr b 0) h)
      |none=>False):=hg
    cases hi:E.ty e with
    |none=>rw[hi] at hg;exact hg.elim
    |some i=>
      rw[hi] at hg
      have hg:h.newK (rowOf e i.zero) (fun b h=>k (.ptr b 0) h):=hg
      rw[newK_eq] at hg
      refine⟨fun p=>.ptr p 0,rowOf e i.zero,hg,fun{μ a} _=>⟨Instr.alloc e true (.tuple #[]),fun q hq=>?_,exAlloc_fresh ok hi μ⟩⟩
      obtain⟨dst,op,type,pos,after,guard⟩:=q
      cases hq;rfl
  case makeMap t r=>
    cases r with
    |some=>cases hf
    |none=>
      have hg:h.newK (.map [] 0) (fun b h=>k (.map b) h):=hg
      rw[newK_eq] at hg
      refine⟨fun p=>.map p,.map [] 0,hg,fun{μ a} _=>⟨Instr.makeMap t none,fun q hq=>?_,makeMap_fresh μ t⟩⟩
      obtain⟨dst,op,type,pos,after,guard⟩:=q
      cases hq;rfl
  case makeSlice t x y=>
    obtain⟨v,h',hr,hg⟩:=optK_inv (C:=CP E) (good:=fun p=>p) (fun h=>h) (show optK (CP E) k (withElem E t (fun e ei=>exMakeSlice (natOf (eval (CP E) x f)) (natOf (eval (CP E) y f)) h e ei)) from hg)
    obtain⟨u,ob,e,_,hfr⟩:=makeSlice_fresh ok hr
    cases e
    refine⟨u,ob,hg,fun{μ a} hv=>⟨Instr.makeSlice t (a.eval x) (a.eval y),fun q hq=>?_,hfr (hv x (by simp[Op.operands])) (hv y (by simp[Op.operands]))⟩⟩
    obtain⟨dst,op,type,pos,after,guard⟩:=q
    cases hq;rfl
  case buildSlice t n ps=>
    obtain⟨v,h',hr,hg⟩:=optK_inv (C:=CP E) (good:=fun p=>p) (fun h=>h) (show optK (CP E) k (withElem E t (fun e ei=>exBuildSlice n (evalParts (CP E) f ps.toList) h e ei)) from hg)
    obtain⟨u,ob,e,_,hfr⟩:=buildSlice_fresh ok hr
    cases e
    refine⟨u,ob,hg,fun{μ a} hv=>⟨Instr.buildSlice t n (ps.map fun(i,x)=>(i,a.eval x)),fun q hq=>?_,hfr ?_⟩⟩
    · obtain⟨dst,op,type,pos,after,guard⟩:=q
      cases hq;rfl
    · have:=PartsR.map (μ:=μ) (a:=a) (C:=CP E) (f:=f) (l:=ps.toList) fun x hx=>hv x (by simpa[Op.operands] using hx)
      have this2:PartsR μ (ps.toList.map fun p=>(p.1,eval (CP E) p.2 f)) (ps.map fun(i,x)=>(i,a.eval x)).toList:=by simpa using this
      exact Eq.mpr (congrArg (fun l=>PartsR μ l _) (evalParts_eq (C:=CP E) (f:=f) ps.toList)) this2
  case box e x=>
    have hg:=box2_of (show box2 E e (eval' E x f) h k from hg)
    rw[forceV_eq] at hg
    cases hn:Nat.ble 1 (len (eval' E x f).cells) with
    |false=>rw[hn] at hg;exact hg.elim
    |true=>
      rw[hn] at hg
      have hg:h.newK (rowOf e (eval' E x f).cells) (fun b h=>k (.ptr b 0) h):=hg
      rw[newK_eq] at hg
      refine⟨fun p=>.ptr p 0,rowOf e (eval' E x f).cells,hg,fun{μ a} hv=>⟨Instr.box e (a.eval x),fun q hq=>?_,box_fresh e (hv x (by simp[Op.operands])) hn⟩⟩
      obtain⟨dst,op,type,pos,after,guard⟩:=q
      cases hq;rfl
/-- a name of the interpreter's that is ahead of the model's block -/
structure Ghost(P:Program)(ops:Array Oper)(E:Env)(f0:FT)(v:Nat→AV)(h:H)(i:Nat)(p:Go.Den.P):Prop where
  ex:∃(o:Oper)(fi:FT)(u:Go.Den.P→AV)(ob:Ob FT),ops[i]? =some o∧isFresh o.op=true∧o.guard=none∧(∀t∈o.looksAt ops,fi t=.top∨fi t=FA ops v f0 i t)∧FreshOp P E o.op fi u ob∧v i=u p∧h.at p=ob
theorem Ghost.congr{f0:FT}{v v':Nat→AV}{h h':H}{i:Nat}{p:Go.Den.P}(hv:∀j,j=i∨Anc ops i j→v j=v' j)(ha:h'.at p=h.at p)(g:Ghost P ops E f0 v h i p):Ghost P ops E f0 v' h' i p:=by
  obtain⟨o,fi,u,ob,h1,h0,h2,h3,h4,h5,h6⟩:=g.ex
  refine⟨o,fi,u,ob,h1,h0,h2,fun t ht=>?_,h4,by rw[←hv i (.inl rfl)];exact h5,ha.trans h6⟩
  rw[←FA_congr fun j hj=>hv j (.inr hj)];exact h3 t ht
theorem Sim.ghost{μ:Mu}{h:H}{w:World}(s:Sim μ h w)(ob:Ob FT):Sim μ (h.new ob) w:=by
  have hn:=s.none (b:=h.next) (Nat.le_refl _)
  have hsucc:(h.new ob).next.nat=h.next.nat+1:=P.nat_succ _
  have hne:∀b l,μ b=some l→b≠h.next:=fun b l hb e=>by rw[e,hn] at hb;cases hb
  refine⟨fun b l hb=>?_,fun b hb=>?_,fun b l hb hl=>?_,fun b b' l l' hb hb' hl hl' he=>?_⟩
  · have:=s.fresh b l hb;omega
  · rw[at_new,if_neg (fun e=>by rw[e] at hb;omega)];exact s.dead b (by omega)
  · rw[at_new,if_neg (hne b l hl)] at hb ⊢;exact s.ob b l hb hl
  · rw[at_new,if_neg (hne b l hl)] at hb
    rw[at_new,if_neg (hne b' l' hl')] at hb'
    exact s.inj b b' l l' hb hb' hl hl' he
theorem Ext'.ghostly{μ0 μ:Mu}{h0 h:H}{w0 w:World}(x:Ext' μ0 h0 w0 μ h w)(s:Sim μ h w)(ob:Ob FT):Ext' μ0 h0 w0 μ (h.new ob) w:=by
  have hn:=s.none (b:=h.next) (Nat.le_refl _)
  have hsucc:(h.new ob).next.nat=h.next.nat+1:=P.nat_succ _
  refine⟨x.le,x.size,x.keep,?_,⟨?_,fun b hb e=>?_⟩,x.os,x.tape,x.output⟩
  · rintro k hk ⟨b,l,hb,hl,e⟩
    rw[at_new,if_neg (fun e=>by rw[e,hn] at hl;cases hl)] at hb
    exact x.own k hk ⟨b,l,hb,hl,e⟩
  · have:=x.ghost.1;omega
  · obtain⟨e1,e2⟩:=x.ghost.2 b hb e
    refine⟨e1,?_⟩
    rw[at_new,if_neg (fun e=>by have:=x.ghost.1;rw[e] at hb;omega)];exact e2
/-- the model comes to it -/
theorem Sim.fill{μ:Mu}{h:H}{w:World}(s:Sim μ h w){p:Go.Den.P}(hp:p.nat<h.next.nat)(hm:μ p=Option.none){obj:Obj}{sz:Nat}(ho:∀μ',Mu.le μ μ'→ObR μ' (w.alloc obj) ⟨w.heap.size,0,sz⟩ (h.at p)):
    Mu.le μ (μ.set p ⟨w.heap.size,0,sz⟩)∧Sim (μ.set p ⟨w.heap.size,0,sz⟩) h (w.alloc obj):=by
  have hle:=Mu.le_set (l:=⟨w.heap.size,0,sz⟩) hm
  have hold:∀k,k<w.heap.size→(w.alloc obj).heap[k]? =w.heap[k]? :=fun k hk=>Below.heap_alloc w obj k hk
  have hlt:∀b l,h.at b≠.dead→μ b=some l→l.blk<w.heap.size:=fun b l hb hl=>(s.ob b l hb hl).lt hb
  refine⟨hle,fun b l hb=>?_,s.dead,fun b l hb hl=>?_,fun b b' l l' hb hb' hl hl' he=>?_⟩
  · by_cases e:b=p
    · rw[e];exact hp
    · rw[Mu.set_other _ _ e] at hb;exact s.fresh b l hb
  · by_cases e:b=p
    · subst e;rw[Mu.set_same] at hl;cases hl;exact ho _ hle
    · rw[Mu.set_other _ _ e] at hl
      have r:=s.ob b l hb hl
      exact(r.mono hle).world (hold _ (r.lt hb))
  · have hb0:h.at b≠.dead:=fun e0=>by rw[e0] at hb;cases hb
    by_cases e:b=p
    · by_cases e':b'=p
      · rw[e,e']
      · rw[e,Mu.set_same] at hl;cases hl
        rw[Mu.set_other _ _ e'] at hl'
        have:=hlt b' l' hb' hl'
        simp at he;omega
    · rw[Mu.set_other _ _ e] at hl
      by_cases e':b'=p
      · rw[e',Mu.set_same] at hl';cases hl'
        have:=hlt b l hb0 hl
        simp at he;omega
      · rw[Mu.set_other _ _ e'] at hl'
        exact s.inj b b' l l' hb hb' hl hl' he
theorem Ext'.fill{μ0 μ:Mu}{h0 h:H}{w0 w:World}(x:Ext' μ0 h0 w0 μ h w){p:Go.Den.P}(hp:h0.next.nat≤p.nat)(hm:μ p=none)(obj:Obj)(sz:Nat):Ext' μ0 h0 w0 (μ.set p ⟨w.heap.size,0,sz⟩) h (w.alloc obj):=by
  have hle:=Mu.le_set (l:=⟨w.heap.size,0,sz⟩) hm
  refine⟨x.le.trans hle,?_,fun k hk ho=>?_,?_,⟨x.ghost.1,fun b hb e=>?_⟩,x.os,x.tape,x.output⟩
  · rw[World.size_alloc];have:=x.size;omega
  · rw[Below.heap_alloc w obj k (Nat.lt_of_lt_of_le hk x.size)];exact x.keep k hk ho
  · rintro k hk ⟨b,l,hb,hl,e⟩
    by_cases eb:b=p
    · rw[eb,Mu.set_same] at hl;cases hl
      have:=x.size
      simp at e;omega
    · rw[Mu.set_other _ _ eb] at hl
      exact x.own k hk ⟨b,l,hb,hl,e⟩
  · obtain⟨e1,e2⟩:=x.ghost.2 b hb e
    exact⟨by rw[Mu.set_other _ _ (fun e=>by rw[e] at hb;omega)];exact e1,e2⟩
end
end Go.Den
/-
  Regions whose order is drawn: what the interpreter's own order tells.
-/
namespace Go.Den
open Go.RowKit
open Classical

noncomputable def asg (A:List Nat):Nat→Bool:=fun i=>decide (i∈A)
theorem asg_true{A:List Nat}{i:Nat}:asg A i=true↔i∈A:=by simp[asg]
theorem asg_false{A:List Nat}{i:Nat}:asg A i=false↔i∉A:=by simp[asg]
theorem asg_snoc(A:List Nat)(i:Nat):asg (A++[i])=upd (asg A) i true:=by
  funext j
  simp only[asg,upd,List.mem_append,List.mem_singleton]
  by_cases h:j=i<;>simp[h]
def Sub(f F:FT):Prop:=∀t,f t=.top∨f t=F t
def ExtV(A:List Nat)(v v':Nat→AV):Prop:=∀i∈A,v' i=v i
theorem ExtV.refl(A:List Nat)(v:Nat→AV):ExtV A v v:=fun _ _=>rfl
theorem ExtV.trans{A B:List Nat}{v v' v'':Nat→AV}(h:ExtV A v v')(k:ExtV B v' v'')(hs:∀i∈A,i∈B):ExtV A v v'':=fun i hi=>(k i (hs i hi)).trans (h i hi)
theorem Sub.fput{f F:FT}(h:Sub f F)(d:Option Tmp)(a:AV):Sub (fput f d a) (fput F d a):=fun t=>by
  rw[fput_get,fput_get]
  by_cases e:d=some t
  · rw[if_pos e,if_pos e];exact .inr rfl
  · rw[if_neg e,if_neg e];exact h t
noncomputable def Dr.idx (its:Dr):List Nat:=Dr.rec [] (fun i _ _ _ ih=>i::ih) (fun _ _ _ _ ip _ _ ihb ihr=>ihb++ip::ihr) its
theorem idx_op(i:Nat)(o:Oper)(rl:List (Nat×Oper))(r:Dr):(Dr.op i o rl r).idx=i::r.idx:=rfl
theorem idx_grp(j:Nat)(gd:Tmp)(w:Bool)(b:Dr)(ip:Nat)(pk:Oper)(r:Dr):(Dr.grp j gd w b ip pk r).idx=b.idx++ip::r.idx:=rfl
theorem dtop_get(l:List (Option Tmp)):∀(f:FT)(t:Nat),dtop l f t=.top∨(dtop l f t=f t∧some t∉l):=by
  induction l with
  |nil=>intro f t;exact .inr ⟨rfl,by simp⟩
  |cons d l ih=>
    intro f t
    show dtop l (Den.fput f d .top) t=.top∨(dtop l (Den.fput f d .top) t=f t∧_)
    rcases ih (Den.fput f d .top) t with h|⟨h,hl⟩
    · exact .inl h
    · rw[h,fput_get]
      by_cases e:d=some t
      · left;rw[if_pos e]
      · right;rw[if_neg e]
        exact⟨rfl,by simp only[List.mem_cons,not_or];exact⟨fun h=>e h.symm,hl⟩⟩

section
variable{ops:Array Oper}{P:Program}{E:Env}{N G:Nat}{D:List Deferred}{call:Caller Prop FT}{f0:FT}{Kf:FT→H→Prop}
/-- what is asked where an operation that may change memory is done -/
structure FreshOk(ops:Array Oper)(E:Env)(o:Oper)(rl:List Oper)(A:List Nat):Prop where
  fresh:isFresh o.op=true
  guard:o.guard=none
  kinds:∀o∈rl,kindOf E o.op=0∨kindOf E o.op=1
  look:∀l ol,l∈A→ops[l]? =some ol→kindOf E ol.op=1→ol∈rl∧(∃d,ol.dst=some d∧∀j,dstOf ops j=some d→j=l)∧∀t∈ol.looksAt ops,∀j,dstOf ops j=some t→Anc ops l j
structure StopOk(ops:Array Oper)(E:Env)(i:Nat)(rl:List Oper)(A B:List Nat):Prop where
  kinds:∀o∈rl,kindOf E o.op=0∨kindOf E o.op=1
  later:∀j∈B,Anc ops j i
  look:∀l ol,l∈A→ops[l]? =some ol→kindOf E ol.op=1→Anc ops i l∨ol∈rl
  rl:∀l ol,l∈A→ops[l]? =some ol→kindOf E ol.op=1→Anc ops i l∨((∃d,ol.dst=some d∧∀j,dstOf ops j=some d→j=l)∧∀t∈ol.looksAt ops,∀j,dstOf ops j=some t→Anc ops l j)
mutual
/-- what follows can be gone on with, from whatever agrees with what is known -/
inductive Good (ops:Array Oper) (E:Env) (call:Caller Prop FT) (f0:FT) (Kf:FT→H→Prop):List Nat→(Nat→AV)→List Nat→List Nat→(FT→H→Prop)→Prop
  |mk {A0:List Nat} {v0:Nat→AV} {A rem:List Nat} {C:FT→H→Prop} (h:∀v f hh,ExtV A0 v0 v→Sub f (FS ops v f0 (asg A) ops.size)→C f hh→Out ops E call f0 Kf A rem v hh):Good ops E call f0 Kf A0 v0 A rem C
inductive Out (ops:Array Oper) (E:Env) (call:Caller Prop FT) (f0:FT) (Kf:FT→H→Prop):List Nat→List Nat→(Nat→AV)→H→Prop
  |fin {A rem:List Nat} {v v':Nat→AV} {f':FT} {hh:H} (he:ExtV A v v') (hf:∀i∈rem,Fact ops E call f0 v' hh i) (hs:Sub f' (FS ops v' f0 (asg (A++rem)) ops.size)) (hk:Kf f' hh):Out ops E call f0 Kf A rem v hh
  |stop {A A1 B:List Nat} {e:Nat} {v v':Nat→AV} {f':FT} {hh:H} {o:Oper} {rl:List Oper} {C:FT→H→Prop} (he:ExtV A v v') (hf:∀i∈A1,Fact ops E call f0 v' hh i) (hs:Sub f' (FS ops v' f0 (asg (A++A1)) ops.size))
      (ho:ops[e]? =some o) (hw:Wanted v' o) (hn:e∉A++A1) (hst:StopOk ops E e rl (A++A1) B) (hx:exec2 E o.op call f' hh (fun u h'=>coK E o.type u (fun u=>rlooks E call rl (Den.fput f' o.dst u) h' (C (Den.fput f' o.dst u) h'))))
      (hg:Good ops E call f0 Kf (A++A1) v' (A++A1++[e]) B C):Out ops E call f0 Kf A (A1++e::B) v hh
  |ghost {A A1 B:List Nat} {e:Nat} {v v':Nat→AV} {f':FT} {hh:H} {o:Oper} {rl:List Oper} {C:FT→H→Prop} (he:ExtV A v v') (hf:∀i∈A1,Fact ops E call f0 v' hh i) (hs:Sub f' (FS ops v' f0 (asg (A++A1)) ops.size))
      (ho:ops[e]? =some o) (hn:e∉A++A1) (hst:FreshOk ops E o rl (A++A1)) (hx:exec2 E o.op call f' hh (fun u h'=>coK E o.type u (fun u=>rlooks E call rl (Den.fput f' o.dst u) h' (C (Den.fput f' o.dst u) h'))))
      (hg:Good ops E call f0 Kf (A++A1) v' (A++A1++[e]) B C):Out ops E call f0 Kf A (A1++e::B) v hh
end
theorem Good.base{A0 A1 A rem:List Nat}{v0 v1:Nat→AV}{C:FT→H→Prop}(h:Good ops E call f0 Kf A0 v0 A rem C)(hs:∀i∈A0,i∈A1)(he:ExtV A0 v0 v1):Good ops E call f0 Kf A1 v1 A rem C:=by
  cases h with
  |mk h=>exact .mk fun v f hh hv hsub hc=>h v f hh (he.trans hv hs) hsub hc
theorem Out.pre(wf:Wf P E N G ops){A L rem:List Nat}{v v1:Nat→AV}{hh:H}(h:Out ops E call f0 Kf (A++L) rem v1 hh)(hf:∀i∈L,Fact ops E call f0 v1 hh i)(he:ExtV A v v1)(ha:∀i∈L,∀j,j=i∨Anc ops i j→j∈A++L):Out ops E call f0 Kf A (L++rem) v hh:=by
  have sub:∀i∈A,i∈A++L:=fun i hi=>List.mem_append_left _ hi
  cases h with
  |fin he' hf' hs hk=>
    refine .fin (he.trans he' sub) (fun i hi=>?_) (by rw[←List.append_assoc];exact hs) hk
    rcases List.mem_append.1 hi with hi|hi
    · exact(hf i hi).congr wf fun j hj=>(he' j (ha i hi j hj)).symm
    · exact hf' i hi
  |stop he' hf' hs ho hw hn hst hx hg=>
    rename_i A1 B e v' f' o rl C
    rw[←List.append_assoc]
    refine .stop (he.trans he' sub) (fun i hi=>?_) (by rw[←List.append_assoc];exact hs) ho hw (by rw[←List.append_assoc];exact hn) (by rw[←List.append_assoc];exact hst) hx (by rw[←List.append_assoc];exact hg)
    rcases List.mem_append.1 hi with hi|hi
    · exact(hf i hi).congr wf fun j hj=>(he' j (ha i hi j hj)).symm
    · exact hf' i hi
  |ghost he' hf' hs ho hn hst hx hg=>
    rename_i A1 B e v' f' o rl C
    rw[←List.append_assoc]
    refine .ghost (he.trans he' sub) (fun i hi=>?_) (by rw[←List.append_assoc];exact hs) ho (by rw[←List.append_assoc];exact hn) (by rw[←List.append_assoc];exact hst) hx (by rw[←List.append_assoc];exact hg)
    rcases List.mem_append.1 hi with hi|hi
    · exact(hf i hi).congr wf fun j hj=>(he' j (ha i hi j hj)).symm
    · exact hf' i hi

/-- what is asked of the order -/
def OkD(ops:Array Oper)(E:Env)(G:Nat):Dr→Option (Nat×Bool)→List Nat→List Nat→List Nat→Prop
  |.nil,_,_,_,_=>True
  |.op i o rl r,g,lv,A,rest=>ops[i]? =some o∧o.guard=g∧i∉A∧Rdy ops (asg A) i∧(kindOf E o.op≤1→sndL rl=[])∧(kindOf E o.op=2→StopOk ops E i (sndL rl) A (r.idx++rest)∨FreshOk ops E o (sndL rl) A)∧OkD ops E G r g (i::lv) (A++[i]) rest
  |.grp j gd w b ip pk r,g,lv,A,rest=>dstOf ops j=some gd∧(∀j',dstOf ops j'=some gd→j'=j)∧j∈A∧j∈lv∧ops[ip]? =some pk∧pk.guard=g∧okPick G gd w pk.op=true∧ip∉A++b.idx∧Rdy ops (asg (A++b.idx)) ip
      ∧OkD ops E G b (some (j,w)) [] A (ip::r.idx++rest)∧OkD ops E G r g (ip::lv) (A++b.idx++[ip]) rest
theorem okD_dc:∀{its:Dr}{g:Option (Nat×Bool)}{lv A rest:List Nat},OkD ops E G its g lv A rest→DC ops (asg A)→DC ops (asg (A++its.idx))
  |.nil,_,_,A,_,_,dc=>by show DC ops (asg (A++[]));rw[List.append_nil];exact dc
  |.op i o rl r,_,_,A,_,h,dc=>by
    obtain⟨ho,_,_,hr,_,_,hrr⟩:=h
    have:=okD_dc hrr (by rw[asg_snoc];exact dc.insert hr)
    rw[List.append_assoc] at this;exact this
  |.grp j gd w b ip pk r,_,_,A,_,h,dc=>by
    obtain⟨_,_,_,_,_,_,_,_,hr,hb,hrr⟩:=h
    have h1:=okD_dc hb dc
    have:=okD_dc hrr (by rw[asg_snoc];exact h1.insert hr)
    rw[List.append_assoc,List.append_assoc] at this
    rw[idx_grp];exact this
theorem okD_dsts:∀{its:Dr}{g:Option (Nat×Bool)}{lv A rest:List Nat},OkD ops E G its g lv A rest→∀i∈its.idx,∀d,dstOf ops i=some d→some d∈its.dsts
  |.nil,_,_,_,_,_,i,hi,_,_=>by cases hi
  |.op i o rl r,_,_,A,_,h,x,hx,d,hd=>by
    obtain⟨ho,_,_,hr,_,_,hrr⟩:=h
    show some d∈o.dst::r.dsts
    rcases List.mem_cons.1 (show x∈i::r.idx from hx) with rfl|hx
    · unfold dstOf at hd;rw[ho] at hd
      rw[show o.dst=some d from hd];simp
    · exact List.mem_cons_of_mem _ (okD_dsts hrr x hx d hd)
  |.grp j gd w b ip pk r,_,_,A,_,h,x,hx,d,hd=>by
    obtain⟨_,_,_,_,ho,_,_,_,hr,hb,hrr⟩:=h
    show some d∈appL b.dsts (pk.dst::r.dsts)
    have happ:∀(l m:List (Option Tmp)),appL l m=l++m:=by intro l m;induction l with|nil=>rfl|cons x l ih=>show x::appL l m=_;rw[ih];rfl
    rw[happ,List.mem_append]
    rcases List.mem_append.1 (show x∈b.idx++ip::r.idx from hx) with hx|hx
    · exact .inl (okD_dsts hb x hx d hd)
    · right
      rcases List.mem_cons.1 hx with rfl|hx
      · unfold dstOf at hd;rw[ho] at hd
        rw[show pk.dst=some d from hd];simp
      · exact List.mem_cons_of_mem _ (okD_dsts hrr x hx d hd)
/-- guards within -/
theorem okD_guard:∀{its:Dr}{g:Option (Nat×Bool)}{lv A rest:List Nat},OkD ops E G its g lv A rest→∀i∈its.idx,i∉A∧∃o,ops[i]? =some o∧(o.guard=g∨∃g' w',o.guard=some (g',w')∧(g'∈lv∨g'∈its.idx))
  |.nil,_,_,_,_,_,i,hi=>by cases hi
  |.op i o rl r,_,_,A,_,h,x,hx=>by
    obtain⟨ho,hg,hn,hr,_,_,hrr⟩:=h
    rcases List.mem_cons.1 (show x∈i::r.idx from hx) with rfl|hx
    · exact⟨hn,o,ho,.inl hg⟩
    · obtain⟨h1,o',ho',h2⟩:=okD_guard hrr x hx
      refine⟨fun h=>h1 (List.mem_append_left _ h),o',ho',h2.imp id fun⟨g',w',e,h3⟩=>⟨g',w',e,?_⟩⟩
      rcases h3 with h3|h3
      · rcases List.mem_cons.1 h3 with rfl|h3
        · exact .inr (by rw[idx_op];simp)
        · exact .inl h3
      · exact .inr (by rw[idx_op];simp[h3])
  |.grp j gd w b ip pk r,_,lv,A,_,h,x,hx=>by
    obtain⟨_,_,hjA,hjl,ho,hg,_,hn,hr,hb,hrr⟩:=h
    rcases List.mem_append.1 (show x∈b.idx++ip::r.idx from hx) with hx|hx
    · obtain⟨h1,o',ho',h2⟩:=okD_guard hb x hx
      refine⟨h1,o',ho',.inr ?_⟩
      rcases h2 with h2|⟨g',w',e,h3⟩
      · exact⟨j,w,h2,.inl hjl⟩
      · refine⟨g',w',e,?_⟩
        rcases h3 with h3|h3
        · cases h3
        · exact .inr (by rw[idx_grp];simp[h3])
    · rcases List.mem_cons.1 hx with rfl|hx
      · exact⟨fun h=>hn (List.mem_append_left _ h),pk,ho,.inl hg⟩
      · obtain⟨h1,o',ho',h2⟩:=okD_guard hrr x hx
        refine⟨fun h=>h1 (by simp[h]),o',ho',h2.imp id fun⟨g',w',e,h3⟩=>⟨g',w',e,?_⟩⟩
        rcases h3 with h3|h3
        · rcases List.mem_cons.1 h3 with rfl|h3
          · exact .inr (by rw[idx_grp];simp)
          · exact .inl h3
        · exact .inr (by rw[idx_grp];simp[h3])
theorem kind_le(E:Env)(o:Op):kindOf E o=0∨kindOf E o=1∨kindOf E o=2:=by
  have b1:∀c:Bool,(Bool.rec 1 0 c:Nat)=0∨(Bool.rec 1 0 c:Nat)=1∨(Bool.rec 1 0 c:Nat)=2:=fun c=>by cases c<;>simp
  cases o<;>try exact .inl rfl
  all_goals try exact .inr (.inl rfl)
  all_goals try exact .inr (.inr rfl)
  · rename_i s d x
    show(Bool.rec (Bool.rec 1 2 (isDesc E isSlD d)) 0 (band (isIntTy E s) (isIntTy E d)):Nat)=0∨_
    show _∨(Bool.rec (Bool.rec 1 2 (isDesc E isSlD d)) 0 (band (isIntTy E s) (isIntTy E d)):Nat)=1∨(Bool.rec (Bool.rec 1 2 (isDesc E isSlD d)) 0 (band (isIntTy E s) (isIntTy E d)):Nat)=2
    cases band (isIntTy E s) (isIntTy E d)<;>cases isDesc E isSlD d<;>simp
  · exact b1 _
  · rename_i c
    obtain⟨callee,args,ats⟩:=c
    cases callee with
    |value v=>exact .inr (.inr rfl)
    |invoke r m=>exact .inr (.inr rfl)
    |builtin b=>
      cases b<;>first|exact .inr (.inl rfl)|exact .inr (.inr rfl)|skip
      show(match ats.toList with
        |t::_=>(Bool.rec 1 0 (isDesc E isStrSl t):Nat)
        |[]=>1)=0∨(match ats.toList with
        |t::_=>(Bool.rec 1 0 (isDesc E isStrSl t):Nat)
        |[]=>1)=1∨(match ats.toList with
        |t::_=>(Bool.rec 1 0 (isDesc E isStrSl t):Nat)
        |[]=>1)=2
      cases ats.toList with
      |nil=>exact .inr (.inl rfl)
      |cons t r=>exact b1 _
theorem upd_ext{A:List Nat}{v:Nat→AV}{i:Nat}{a:AV}(h:i∉A):ExtV A v (upd v i a):=fun j hj=>by
  have:j≠i:=fun e=>h (e▸hj)
  simp[upd,this]
theorem wanted_of{g:Option (Nat×Bool)}{o:Oper}(hg:o.guard=g){v:Nat→AV}(h:∀j w,g=some (j,w)→v j=.bool w):Wanted v o:=fun j w e=>h j w (hg▸e)
theorem Sub.snoc(wf:Wf P E N G ops){A:List Nat}(dc:DC ops (asg A)){v:Nat→AV}{f:FT}{i:Nat}{o:Oper}(ho:ops[i]? =some o)(hi:i∉A)(h:Sub f (FS ops v f0 (asg A) ops.size))(a:AV):Sub (Den.fput f o.dst a) (FS ops (upd v i a) f0 (asg (A++[i])) ops.size):=by
  rw[asg_snoc,FS_put wf dc ho (asg_false.2 hi)]
  exact h.fput _ _
theorem Sub.view(wf:Wf P E N G ops){A:List Nat}(dc:DC ops (asg A)){v:Nat→AV}{f:FT}{i:Nat}{o:Oper}(ho:ops[i]? =some o)(hi:i∉A)(r:Rdy ops (asg A) i)(h:Sub f (FS ops v f0 (asg A) ops.size)):∀t∈o.looksAt ops,f t=.top∨f t=FA ops v f0 i t:=fun t ht=>by
  rcases h t with h|h
  · exact .inl h
  · right;rw[h];exact FA_agree wf dc ho (asg_false.2 hi) r ht
theorem mem_anc{A:List Nat}(dc:DC ops (asg A)){i:Nat}(r:Rdy ops (asg A) i):∀j,j=i∨Anc ops i j→j∈A++[i]:=fun j hj=>by
  rcases hj with rfl|hj
  · simp
  · exact List.mem_append_left _ (asg_true.1 (r.anc dc hj))
/-- the order is gone through -/
theorem good_dr (wf : Wf P E N G ops) : ∀ (its : Dr) {g : Option (Nat × Bool)} {lv A rem A0 : List Nat} {v0 : Nat → AV} {K : FT → H → Prop}, OkD ops E G its g lv A rem → DC ops (asg A) → (∀ i ∈ A0, i ∈ A) → (∀ j w, g = some (j, w) → j ∈ A0 ∧ v0 j = .bool w) →
    Good ops E call f0 Kf A0 v0 (A ++ its.idx) rem K → Good ops E call f0 Kf A0 v0 A (its.idx ++ rem) (fun f h => runDr E call its f h K)
  | .nil, g, lv, A, rem, A0, v0, K, _, _, _, _, hk => by
    have hk : Good ops E call f0 Kf A0 v0 (A ++ []) rem K := hk
    rw [List.append_nil] at hk
    exact hk
  | .op i o rl r, g, lv, A, rem, A0, v0, K, hok, dc, hA, hg, hk => by
    obtain ⟨ho, hgu, hn, hr, hrl, hst, hrr⟩ := hok
    have dc' : DC ops (asg (A ++ [i])) := by rw [asg_snoc]; exact dc.insert hr
    have hk' : Good ops E call f0 Kf A0 v0 (A ++ [i] ++ r.idx) rem K := by rw [List.append_assoc]; exact hk
    have hgr := good_dr wf r hrr dc' (fun x hx => List.mem_append_left _ (hA x hx)) hg hk'
    refine .mk fun v f hh hv hs hc => ?_
    have hw : Wanted v o := wanted_of hgu fun j w e => by rw [hv j (hg j w e).1]; exact (hg j w e).2
    have hc : exec2 E o.op call f hh (fun u h' => coK E o.type u (fun u => rlooks E call (sndL rl) (Den.fput f o.dst u) h' (runDr E call r (Den.fput f o.dst u) h' K))) := hc
    by_cases hk2 : kindOf E o.op = 2
    · rcases hst hk2 with hst | hst
      · refine Out.stop (A1 := []) (C := fun f h => runDr E call r f h K) (.refl _ _) (fun _ h => nomatch h) (by rw [List.append_nil]; exact hs) ho hw (by rw [List.append_nil]; exact hn) (by rw [List.append_nil]; exact hst) hc ?_
        rw [List.append_nil]
        exact hgr.base hA hv
      · refine Out.ghost (A1 := []) (C := fun f h => runDr E call r f h K) (.refl _ _) (fun _ h => nomatch h) (by rw [List.append_nil]; exact hs) ho (by rw [List.append_nil]; exact hn) (by rw [List.append_nil]; exact hst) hc ?_
        rw [List.append_nil]
        exact hgr.base hA hv
    · have hk1 : kindOf E o.op = 0 ∨ kindOf E o.op = 1 := by
        rcases kind_le E o.op with h | h | h
        · exact .inl h
        · exact .inr h
        · exact absurd h hk2
      have hle : kindOf E o.op ≤ 1 := by rcases hk1 with h | h <;> omega
      rw [hrl hle] at hc
      obtain ⟨u, hu, hd1, hd2⟩ := det1 hk1 hc
      have hu := coK_inv hu
      have hu : runDr E call r (Den.fput f o.dst u) hh K := hu
      have hs' := hs.snoc wf dc ho hn u
      have hfact : Fact ops E call f0 (upd v i u) hh i := by
        refine ⟨o, ho, .inl ⟨fun g' w' e => ?_, ⟨f, ?_, hle, ?_, ?_⟩⟩⟩
        · have hgA := asg_true.1 (hr.anc dc (wf.guard i o g' w' ho e).1)
          rw [upd_ext hn g' hgA]; exact hw g' w' e
        · intro t ht
          rw [← FA_congr (v := v) fun j hj => (upd_ext hn j (asg_true.1 (hr.anc dc hj))).symm]
          exact hs.view wf dc ho hn hr t ht
        · simp only [upd, if_true]; exact hd1
        · simp only [upd, if_true]; exact hd2
      cases hgr with
      | mk hgr =>
        refine Out.pre wf (L := [i]) (hgr _ _ _ (fun x hx => (upd_ext hn x (hA x hx)).trans (hv x hx)) hs' hu) (fun x hx => ?_) (upd_ext hn) (fun x hx => ?_)
        · rw [List.mem_singleton.1 hx]; exact hfact
        · rw [List.mem_singleton.1 hx]; exact mem_anc dc hr
  | .grp j gd w b ip pk r, g, lv, A, rem, A0, v0, K, hok, dc, hA, hg, hk => by
    obtain ⟨hd, hu, hjA, hjl, hop, hgu, hpk, hn, hr, hb, hrr⟩ := hok
    have dcb := okD_dc hb dc
    have dc' : DC ops (asg (A ++ b.idx ++ [ip])) := by rw [asg_snoc]; exact dcb.insert hr
    have hk' : Good ops E call f0 Kf A0 v0 (A ++ b.idx ++ [ip] ++ r.idx) rem K := by
      rw [List.append_assoc, List.append_assoc]; rw [idx_grp] at hk; exact hk
    have hgr := good_dr wf r hrr dc' (fun x hx => by simp [hA x hx]) hg hk'
    obtain ⟨x, y, cv, epk, hx, hy, hcv⟩ := okPick_inv hpk
    refine .mk fun v f hh hv hs hc => ?_
    obtain ⟨t, hft, hc⟩ := asB_inv (show asB (f gd) (fun t => grpD E w b.dsts pk t (runDr E call b) (runDr E call r) f hh K) from hc)
    have hvj : v j = .bool t := by
      rcases hs gd with h | h
      · rw [hft] at h; cases h
      · rw [FS_guard hd hu (asg_true.2 hjA), hft] at h; exact h.symm
    have hc : joinB (fun kj => gate w t (runDr E call b f hh (fun f h => asB (eval' E (chosen w x y) f) (fun v => kj v h))) (asB (eval' E (chosen w y x) f) (fun v => kj v hh)))
        (fun v h => runDr E call r (Den.fput (dtop b.dsts f) pk.dst (.bool v)) h K) := by
      unfold grpD at hc
      rw [epk] at hc
      exact hc
    have hkp : kindOf E pk.op = 0 := by rw [epk]; rfl
    have pick : ∀ (z : Nat → AV) (fz : FT) (h : H) (q : Bool), fz gd = .bool t → (∀ s ∈ pk.looksAt ops, fz s = .top ∨ fz s = FA ops z f0 ip s) → eval' E (chosen t x y) fz = .bool q → z ip = .bool q → Wanted z pk → Fact ops E call f0 z h ip := fun z fz h q h1 h2 h3 h4 h5 => by
      have ex : ∀ (h' : H) (k : KV), k (.bool q) h' → exec2 E pk.op call fz h' k := fun h' k hk => by
        rw [epk]
        show (BoolV.rec False (fun t => Bool.rec (forceV (eval (CP E) y fz) (fun v => k v h')) (forceV (eval (CP E) x fz) (fun v => k v h')) t) (asBool' (fz gd)) : Prop)
        rw [h1]
        show (Bool.rec (forceV (eval (CP E) y fz) (fun v => k v h')) (forceV (eval (CP E) x fz) (fun v => k v h')) t : Prop)
        cases t with
        | true =>
          show forceV (eval (CP E) x fz) (fun v => k v h')
          rw [forceV_eq, show eval (CP E) x fz = .bool q from h3]; exact hk
        | false =>
          show forceV (eval (CP E) y fz) (fun v => k v h')
          rw [forceV_eq, show eval (CP E) y fz = .bool q from h3]; exact hk
      exact ⟨pk, hop, .inl ⟨h5, ⟨fz, h2, by rw [hkp]; omega, fun k hk => ex _ k (by rw [← h4]; exact hk), fun _ h' k hk => ex _ k (by rw [← h4]; exact hk)⟩⟩⟩
    have wantpk : ∀ z : Nat → AV, ExtV A v z → Wanted z pk := fun z hz => wanted_of hgu fun j' w' e => by
      have := hg j' w' e
      rw [hz j' (hA j' this.1), hv j' this.1]; exact this.2
    -- the frame behind the choice
    have behind : ∀ (z : Nat → AV), ExtV A v z → Sub (dtop b.dsts f) (FS ops z f0 (asg (A ++ b.idx)) ops.size) := fun z hz s => by
      rcases dtop_get b.dsts f s with h | ⟨h, hnot⟩
      · exact .inl h
      · rw [h]
        rcases hs s with h' | h'
        · exact .inl h'
        · right; rw [h']
          refine FS_ext fun q _ hq => ⟨?_, fun hqA => (hz q (asg_true.1 hqA)).symm⟩
          have hqb : q ∉ b.idx := fun hm => hnot (okD_dsts hb q hm s hq)
          simp only [asg, List.mem_append, hqb, or_false]
    have cont : ∀ (z : Nat → AV) (h : H) (q : Bool), ExtV A v z → z ip = .bool q → runDr E call r (Den.fput (dtop b.dsts f) pk.dst (.bool q)) h K → Out ops E call f0 Kf (A ++ b.idx ++ [ip]) (r.idx ++ rem) z h := fun z h q hz hip hrun => by
      cases hgr with
      | mk hgr =>
        refine hgr z _ h (fun i hi => (hz i (hA i hi)).trans (hv i hi)) ?_ hrun
        have := (behind z hz).snoc wf dcb hop hn (.bool q)
        have hself : upd z ip (.bool q) = z := by funext i; simp only [upd]; split <;> simp_all
        rw [hself] at this
        exact this
    by_cases hw : t = w
    · subst hw
      have hc : runDr E call b f hh (fun f' h' => asB (eval' E (chosen t x y) f') (fun v => runDr E call r (Den.fput (dtop b.dsts f) pk.dst (.bool v)) h' K)) := by cases t <;> exact hc
      have hkb : Good ops E call f0 Kf A v (A ++ b.idx) (ip :: r.idx ++ rem) (fun f' h' => asB (eval' E (chosen t x y) f') (fun v => runDr E call r (Den.fput (dtop b.dsts f) pk.dst (.bool v)) h' K)) := by
        refine .mk fun v1 f1 h1 hv1 hs1 hc1 => ?_
        obtain ⟨q, hq, hrun⟩ := asB_inv hc1
        have hex : ExtV (A ++ b.idx) v1 (upd v1 ip (.bool q)) := upd_ext hn
        have hexA : ExtV A v (upd v1 ip (.bool q)) := hv1.trans hex fun i hi => List.mem_append_left _ hi
        have hip : upd v1 ip (AV.bool q) ip = .bool q := by simp [upd]
        refine Out.pre wf (L := [ip]) (cont _ h1 q hexA hip hrun) (fun i hi => ?_) hex (fun i hi => ?_)
        · rw [List.mem_singleton.1 hi]
          have hview : ∀ s ∈ pk.looksAt ops, f1 s = .top ∨ f1 s = FA ops (upd v1 ip (.bool q)) f0 ip s := fun s hs' => by
            rw [← FA_congr (v := v1) fun i hi => (hex i (asg_true.1 (hr.anc dcb hi))).symm]
            exact hs1.view wf dcb hop hn hr s hs'
          have hgd : FS ops v1 f0 (asg (A ++ b.idx)) ops.size gd = .bool t := by
            rw [FS_guard hd hu (asg_true.2 (List.mem_append_left _ hjA)), hv1 j hjA, hvj]
          have hlook : gd ∈ pk.looksAt ops := by
            unfold Oper.looksAt
            rw [epk]
            simp [Op.operands]
          have hFA : FA ops (upd v1 ip (.bool q)) f0 ip gd = .bool t := by
            rw [← FA_congr (v := v1) fun i hi => (hex i (asg_true.1 (hr.anc dcb hi))).symm, ← FA_agree wf dcb hop (asg_false.2 hn) hr hlook]
            exact hgd
          refine pick _ (fset f1 gd (.bool t)) h1 q ?_ ?_ ?_ hip (wantpk _ hexA)
          · rw [fset_eq, if_pos rfl]
          · intro s hs'
            rw [fset_eq]
            by_cases e : s = gd
            · rw [if_pos e]; right; rw [e, hFA]
            · rw [if_neg e]; exact hview s hs'
          · rcases hs1 gd with h | h
            · refine Eq.trans ?_ hq
              cases hch : chosen t x y with
              | tmp s =>
                rw [hch] at hq
                have hq' : f1 s = .bool q := hq
                have hne : s ≠ gd := fun e => by rw [e, h] at hq'; cases hq'
                show fset f1 gd (.bool t) s = f1 s
                rw [fset_eq, if_neg hne]
              | const c => rfl
              | global g => rfl
              | func g => rfl
            · rw [hgd] at h
              have : fset f1 gd (.bool t) = f1 := by
                funext u; rw [fset_eq]; by_cases e : u = gd
                · rw [if_pos e, e, h]
                · rw [if_neg e]
              rw [this]; exact hq
        · rw [List.mem_singleton.1 hi]; exact mem_anc dcb hr
      have := good_dr wf b hb dc (fun i hi => hi) (fun j' w' e => by cases e; exact ⟨hjA, hvj⟩) hkb
      cases this with
      | mk this =>
        have := this v f hh (.refl _ _) hs hc
        rw [idx_grp, List.append_assoc]
        exact this
    · have hc : asB (eval' E (chosen w y x) f) (fun v => runDr E call r (Den.fput (dtop b.dsts f) pk.dst (.bool v)) hh K) := by
        cases t <;> cases w <;> first | exact hc | exact absurd rfl hw
      obtain ⟨q, hq, hrun⟩ := asB_inv hc
      -- nothing of the body is done
      let z : Nat → AV := fun i => if i = ip then .bool q else if i ∈ b.idx then .undef else v i
      have hipb : ip ∉ b.idx := fun h => hn (List.mem_append_right _ h)
      have hipA : ip ∉ A := fun h => hn (List.mem_append_left _ h)
      have hz : ExtV A v z := fun i hi => by
        have h1 : i ≠ ip := fun e => hipA (e ▸ hi)
        have h2 : i ∉ b.idx := fun h => (okD_guard hb i h).1 hi
        simp [z, h1, h2]
      have hzb : ∀ i ∈ b.idx, z i = .undef := fun i hi => by
        have h1 : i ≠ ip := fun e => hipb (e ▸ hi)
        simp [z, h1, hi]
      have hzp : z ip = .bool q := by simp [z]
      have hzj : z j = .bool (!w) := by
        rw [hz j hjA, hvj]; cases t <;> cases w <;> first | rfl | exact absurd rfl hw
      have hdead : ∀ i ∈ b.idx, Fact ops E call f0 z hh i := fun i hi => by
        obtain ⟨_, o, ho, h2⟩ := okD_guard hb i hi
        refine ⟨o, ho, .inr ⟨?_, hzb i hi⟩⟩
        rcases h2 with h2 | ⟨g', w', e, h3⟩
        · exact ⟨j, w, h2, .inr hzj⟩
        · refine ⟨g', w', e, .inl ?_⟩
          rcases h3 with h3 | h3
          · cases h3
          · exact hzb g' h3
      have hch : chosen t x y = chosen w y x := by cases t <;> cases w <;> first | rfl | exact absurd rfl hw
      have hpkf : Fact ops E call f0 z hh ip := by
        refine pick z (fset (dtop b.dsts f) gd (.bool t)) hh q ?_ ?_ ?_ hzp (wantpk z hz)
        · rw [fset_eq, if_pos rfl]
        · intro s hs'
          rw [fset_eq]
          by_cases e : s = gd
          · rw [if_pos e]; right
            have : FA ops z f0 ip gd = .bool t := by
              rw [← FA_agree wf dcb hop (asg_false.2 hn) hr (e ▸ hs'), FS_guard hd hu (asg_true.2 (List.mem_append_left _ hjA)), hz j hjA, hvj]
            rw [e, this]
          · rw [if_neg e]
            rcases behind z hz s with h | h
            · exact .inl h
            · right; rw [h]; exact FA_agree wf dcb hop (asg_false.2 hn) hr hs'
        · rw [hch, hcv] at *
          exact hq
      have hall := cont z hh q hz hzp hrun
      rw [idx_grp, List.append_assoc]
      have hall' : Out ops E call f0 Kf (A ++ (b.idx ++ [ip])) (r.idx ++ rem) z hh := by rw [← List.append_assoc]; exact hall
      have hres := Out.pre wf (A := A) (L := b.idx ++ [ip]) hall' (fun i hi => ?_) hz (fun i hi => ?_)
      · rw [List.append_assoc] at hres
        exact hres
      · rcases List.mem_append.1 hi with hi | hi
        · exact hdead i hi
        · rw [List.mem_singleton.1 hi]; exact hpkf
      · intro j' hj'
        have hin : i ∈ A ++ (b.idx ++ [ip]) := List.mem_append_right _ hi
        rcases hj' with rfl | hj'
        · exact hin
        · have dcx : DC ops (asg (A ++ (b.idx ++ [ip]))) := by rw [← List.append_assoc]; exact dc'
          exact asg_true.1 (dcx.anc (asg_true.2 hin) hj')
end
end Go.Den
/-
  Regions whose order is drawn are sound.
-/
namespace Go.Den
open Go.RowKit
open Classical

section
variable{ops:Array Oper}{P:Program}{E:Env}{N G:Nat}{D:List Deferred}{call:Caller Prop FT}{f0:FT}{Kf:FT→H→Prop}
/-- where the interpreter's own order stands -/
inductive Tail (ops:Array Oper) (E:Env) (call:Caller Prop FT) (f0:FT) (Kf:FT→H→Prop) (A:List Nat) (v:Nat→AV) (hh:H):List Nat→Prop
  |fin {f':FT} (hs:Sub f' (FS ops v f0 (asg A) ops.size)) (hk:Kf f' hh):Tail ops E call f0 Kf A v hh []
  |stop {B:List Nat} {e:Nat} {f':FT} {o:Oper} {rl:List Oper} {C:FT→H→Prop} (hs:Sub f' (FS ops v f0 (asg A) ops.size))
      (ho:ops[e]? =some o) (hw:Wanted v o) (hn:e∉A) (hst:StopOk ops E e rl A B) (hx:exec2 E o.op call f' hh (fun u h'=>coK E o.type u (fun u=>rlooks E call rl (Den.fput f' o.dst u) h' (C (Den.fput f' o.dst u) h'))))
      (hg:Good ops E call f0 Kf A v (A++[e]) B C):Tail ops E call f0 Kf A v hh (e::B)
inductive TailG (ops:Array Oper) (E:Env) (call:Caller Prop FT) (f0:FT) (Kf:FT→H→Prop) (A:List Nat) (v:Nat→AV) (hh:H):List Nat→Prop
  |tl {rem:List Nat} (h:Tail ops E call f0 Kf A v hh rem):TailG ops E call f0 Kf A v hh rem
  |ghost {B:List Nat} {e:Nat} {f':FT} {o:Oper} {rl:List Oper} {C:FT→H→Prop} (hs:Sub f' (FS ops v f0 (asg A) ops.size))
      (ho:ops[e]? =some o) (hn:e∉A) (hst:FreshOk ops E o rl A) (hx:exec2 E o.op call f' hh (fun u h'=>coK E o.type u (fun u=>rlooks E call rl (Den.fput f' o.dst u) h' (C (Den.fput f' o.dst u) h'))))
      (hg:Good ops E call f0 Kf A v (A++[e]) B C):TailG ops E call f0 Kf A v hh (e::B)
theorem Out.tail{A rem:List Nat}{v:Nat→AV}{hh:H}(h:Out ops E call f0 Kf A rem v hh):∃v' A1 rem',rem=A1++rem'∧ExtV A v v'∧(∀i∈A1,Fact ops E call f0 v' hh i)∧TailG ops E call f0 Kf (A++A1) v' hh rem':=by
  cases h with
  |fin he hf hs hk=>exact⟨_,_,[],(List.append_nil _).symm,he,hf,.tl (.fin hs hk)⟩
  |stop he hf hs ho hw hn hst hx hg=>exact⟨_,_,_,rfl,he,hf,.tl (.stop hs ho hw hn hst hx hg)⟩
  |ghost he hf hs ho hn hst hx hg=>exact⟨_,_,_,rfl,he,hf,.ghost hs ho hn hst hx hg⟩
/-- what was done ahead -/
def Facts(P:Program)(ops:Array Oper)(E:Env)(call:Caller Prop FT)(f0:FT)(A:List Nat)(S:Nat→Bool)(gs:Nat→Option Go.Den.P)(v:Nat→AV)(h:H):Prop:=
  ∀i∈A,S i=false→(gs i=none∧Fact ops E call f0 v h i)∨∃p,gs i=some p∧Ghost P ops E f0 v h i p
/-- the names that are ahead -/
def GsOk(A:List Nat)(S:Nat→Bool)(h0 h:H)(μ:Mu)(gs:Nat→Option Go.Den.P):Prop:=
  (∀i p,gs i=some p→i∈A∧h0.next.nat≤p.nat∧p.nat<h.next.nat∧(S i=false→μ p=none))∧∀i j p,gs i=some p→gs j=some p→i=j
structure Inv(P:Program)(ops:Array Oper)(E:Env)(N G:Nat)(D:List Deferred)(call:Caller Prop FT)(f0:FT)(Kf:FT→H→Prop)(μ0:Mu)(h0:H)(w0:World)(pi:List Nat)(S:Nat→Bool)(a:Act)(w:World):Prop where
  ex:∃(A:List Nat)(v:Nat→AV)(h:H)(μ:Mu)(rem:List Nat)(gs:Nat→Option Go.Den.P),DC ops S∧(∀i,S i=true→i∈A)∧FR μ N D (FS ops v f0 S ops.size) a∧Sim μ h w∧Ext' μ0 h0 w0 μ h w∧Globs μ G∧Facts P ops E call f0 A S gs v h∧GsOk A S h0 h μ gs∧A++rem=pi∧Tail ops E call f0 Kf A v h rem
theorem FS_of{v v':Nat→AV}{A:List Nat}{S:Nat→Bool}(he:ExtV A v v')(hs:∀i,S i=true→i∈A):FS ops v f0 S ops.size=FS ops v' f0 S ops.size:=by
  funext t
  exact FS_ext fun j _ _=>⟨rfl,fun h=>(he j (hs j h)).symm⟩
theorem beqB_inv{a b:Bool}(h:beqB a b=true):a=b:=by cases a<;>cases b<;>first|rfl|cases h
theorem ibeq_inv{a b:Int}(h:ibeq a b=true):a=b:=by
  cases a<;>cases b<;>first|(rw[beq_inv (show Nat.beq _ _=true from h)])|cases h
theorem allEq_eq{r:AV→AV→Bool}(hr:∀x y,r x y=true→x=y):∀{xs ys:List AV},allEq r xs ys=true→xs=ys
  |[],[],_=>rfl
  |[],_::_,h=>by cases h
  |_::_,[],h=>by cases h
  |x::xs,y::ys,h=>by
    obtain⟨h1,h2⟩:=band_inv (show band (r x y) (allEq r xs ys)=true from h)
    rw[hr x y h1,allEq_eq hr h2]
theorem fnEq_eq{x y:Fn}(h:fnEq x y=true):x=y:=by
  cases x<;>cases y<;>simp only[fnEq] at h<;>first|(rw[beq_inv h])|cases h
theorem avEq_eq:∀(n:Nat)(x y:AV),avEq n x y=true→x=y:=by
  intro n
  induction n with
  |zero=>intro x y h;cases h
  |succ n ih=>
    intro x y h
    have h:avEqS (avEq n) x y=true:=h
    cases x<;>cases y<;>simp only[avEqS] at h<;>try (cases h;done)
    · rw[beqB_inv h]
    · obtain⟨h1,h2⟩:=band_inv h;rw[ikEq_eq h1,ibeq_inv h2]
    · obtain⟨h1,h2⟩:=band_inv h;rw[beq_inv h1,beq_inv h2]
    · rfl
    · obtain⟨h1,h2⟩:=band_inv h;rw[P.beq_eq h1,beq_inv h2]
    · rfl
    · obtain⟨h1,h2⟩:=band_inv h
      obtain⟨h3,h4⟩:=band_inv h1
      obtain⟨h5,h6⟩:=band_inv h2
      obtain⟨h7,h8⟩:=band_inv h5
      rw[P.beq_eq h3,beq_inv h4,beq_inv h7,beq_inv h8,beqB_inv h6]
    · rfl
    · rw[P.beq_eq h]
    · obtain⟨h1,h2⟩:=band_inv h
      obtain⟨h2,h3⟩:=band_inv h2
      rw[fnEq_eq h1,allEq_eq ih h2,allEq_eq ih h3]
    · rfl
    · obtain⟨h1,h2⟩:=band_inv h;rw[beq_inv h1,ih _ _ h2]
    · rfl
    · rw[allEq_eq ih h]
    · rw[allEq_eq ih h]
theorem rlooks_inv:∀{rl:List Oper}{f:FT}{h:H}{A:Prop},(∀o∈rl,kindOf E o.op=0∨kindOf E o.op=1)→rlooks E call rl f h A→A∧∀o∈rl,(∀k:KV,k (Option.rec .undef f o.dst:AV) h→exec2 E o.op call f h k)∧(kindOf E o.op=0→∀(h':H)(k:KV),k (Option.rec .undef f o.dst:AV) h'→exec2 E o.op call f h' k)∧(Option.rec .undef f o.dst:AV)≠.top
  |[],_,_,_,_,hg=>⟨hg,fun _ h=>nomatch h⟩
  |o::rl,f,h,A,hk,hg=>by
    have hg:exec2 E o.op call f h (fun v _=>coK E o.type v (fun v=>eqC v (Option.rec .undef f o.dst) (rlooks E call rl f h A))):=hg
    obtain⟨u,hu,h1,h2⟩:=det1 (hk o (by simp)) hg
    have hu:=coK_inv hu
    obtain⟨he,hu⟩:=no_bool0 (show(Bool.rec bad0 (rlooks E call rl f h A) (avEq 4 u (Option.rec .undef f o.dst)):Prop) from hu)
    have e:=avEq_eq 4 _ _ he
    obtain⟨ha,hl⟩:=rlooks_inv (fun o ho=>hk o (by simp[ho])) hu
    refine⟨ha,fun x hx=>?_⟩
    rcases List.mem_cons.1 hx with rfl|hx
    · rw[←e];exact⟨h1,h2,fun ht=>by rw[←e,ht] at he;cases he⟩
    · exact hl x hx

/-- what was looked at again still holds -/
theorem relook_ok{A:List Nat}(dcA:DC ops (asg A)){i:Nat}{o:Oper}{f':FT}{v:Nat→AV}{u:AV}{h h':H}(hs:Sub f' (FS ops v f0 (asg A) ops.size))(ho:ops[i]? =some o)(hiA:i∉A){rl:List Oper}
    (hrl:∀o'∈rl,(∀k:KV,k (Option.rec .undef (Den.fput f' o.dst u) o'.dst:AV) h'→exec2 E o'.op call (Den.fput f' o.dst u) h' k)∧(kindOf E o'.op=0→∀(h'':H)(k:KV),k (Option.rec .undef (Den.fput f' o.dst u) o'.dst:AV) h''→exec2 E o'.op call (Den.fput f' o.dst u) h'' k)∧(Option.rec .undef (Den.fput f' o.dst u) o'.dst:AV)≠.top)
    {l:Nat} {ol:Oper} (hl:l∈A) (hol:ops[l]? =some ol) (hfl:(Wanted v ol∧Did ops E call f0 v h l ol)∨(Unwanted v ol∧v l=.undef))
    (hlook:kindOf E ol.op=1→ol∈rl∧(∃d,ol.dst=some d∧∀j,dstOf ops j=some d→j=l)∧∀t∈ol.looksAt ops,∀j,dstOf ops j=some t→Anc ops l j):Fact ops E call f0 v h' l:=by
  have hli:l≠i:=fun e=>hiA (e▸hl)
  refine⟨ol,hol,?_⟩
  rcases hfl with⟨hwl,⟨fi,h1,h2,h3,h4⟩⟩|hfl
  · by_cases hk0:kindOf E ol.op=0
    · exact .inl ⟨hwl,⟨fi,h1,h2,h4 hk0 h',h4⟩⟩
    · have hk1:kindOf E ol.op=1:=by omega
      obtain⟨hmem,⟨d,hd,hud⟩,hwr⟩:=hlook hk1
      obtain⟨r1,r2,r3⟩:=hrl ol hmem
      rw[hd] at r1 r2 r3
      have r1:∀k:KV,k (Den.fput f' o.dst u d) h'→exec2 E ol.op call (Den.fput f' o.dst u) h' k:=r1
      have r2:kindOf E ol.op=0→∀(h'':H)(k:KV),k (Den.fput f' o.dst u d) h''→exec2 E ol.op call (Den.fput f' o.dst u) h'' k:=r2
      have r3:Den.fput f' o.dst u d≠.top:=r3
      have hdl:dstOf ops l=some d:=by unfold dstOf;rw[hol];exact hd
      have hne:o.dst≠some d:=fun e=>hli (hud i (by unfold dstOf;rw[ho];exact e)).symm
      have hval:(Den.fput f' o.dst u) d=.top∨(Den.fput f' o.dst u) d=v l:=by
        rw[fput_get,if_neg hne]
        rcases hs d with h|h
        · exact .inl h
        · right;rw[h];exact FS_guard hdl hud (asg_true.2 hl)
      have hvl:(Den.fput f' o.dst u) d=v l:=by
        rcases hval with h|h
        · exact absurd h r3
        · exact h
      rw[hvl] at r1 r2
      refine .inl ⟨hwl,⟨Den.fput f' o.dst u,fun t ht=>?_,by omega,r1,r2⟩⟩
      have hne2:o.dst≠some t:=fun e=>by
        have:=(hwr t ht i (by unfold dstOf;rw[ho];exact e))
        have:=asg_true.1 (dcA.anc (asg_true.2 hl) this)
        exact hiA this
      rw[fput_get,if_neg hne2]
      rcases hs t with h|h
      · exact .inl h
      · right;rw[h]
        refine FS_ext fun j hj hdj=>⟨?_,fun _=>rfl⟩
        have hj':=hwr t ht j hdj
        show asg A j=decide (Anc ops l j)
        rw[decide_eq_true hj',asg_true]
        exact asg_true.1 (dcA.anc (asg_true.2 hl) hj')
  · exact .inr hfl
theorem getD_listed{listed:Array Bool}{i:Nat}(hi:i<listed.size):(fun j=>(listed.setIfInBounds i true).getD j false)=upd (fun j=>listed.getD j false) i true:=by
  funext j
  simp only[upd,Array.getD_eq_getD_getElem?,Array.getElem?_setIfInBounds]
  by_cases e:j=i
  · subst e;simp[hi]
  · rw[if_neg e,if_neg (fun h=>e h.symm)]
theorem count_upd{S:Nat→Bool}{i:Nat}(hi:S i=false):∀n,i<n→(List.range n).countP (fun j=>!upd S i true j)+1=(List.range n).countP (fun j=>!S j):=by
  intro n
  induction n with
  |zero=>intro h;omega
  |succ n ih=>
    intro h
    rw[List.range_succ,List.countP_append,List.countP_append]
    by_cases e:i=n
    · subst e
      have:(List.range i).countP (fun j=>!upd S i true j)=(List.range i).countP (fun j=>!S j):=by
        refine List.countP_congr fun j hj=>?_
        have:j≠i:=by have:=List.mem_range.1 hj;omega
        simp[upd,this]
      rw[this]
      simp[upd,hi]
    · have:=ih (by omega)
      have hne:n≠i:=fun h=>e h.symm
      have h2:List.countP (fun j=>!upd S i true j) [n]=List.countP (fun j=>!S j) [n]:=by simp[upd,hne]
      rw[h2];omega
section
variable(wf:Wf P E N G ops)(ok:EnvOk P E)(hcall:CallOk P (CP E) G (fun p=>p) call){Q:Exit→Act→World→Prop}{μ0:Mu}{h0:H}{w0:World}
  {pi:List Nat} (hpi:∀A i B,pi=A++i::B→Rdy ops (asg A) i) (hall:∀i,i<ops.size→i∈pi)
  (hQ:∀μ f h a w,FR μ N D f a→Sim μ h w→Ext' μ0 h0 w0 μ h w→Globs μ G→Kf f h→Q .normal a w)
include hpi in
theorem dc_pre:∀(A B:List Nat),pi=A++B→DC ops (asg A):=by
  intro A
  induction h:A.length generalizing A with
  |zero=>intro B _;rw[List.length_eq_zero_iff.1 h];intro i o e hi;simp[asg] at hi
  |succ n ih=>
    intro B hB
    rcases List.eq_nil_or_concat A with rfl|⟨A',i,rfl⟩
    · cases h
    · rw[List.concat_eq_append] at hB h ⊢
      have hB':pi=A'++i::B:=by rw[hB];simp
      rw[asg_snoc]
      exact(ih A' (by simpa using h) (i::B) hB').insert (hpi A' i B hB')
omit hall hcall hQ in
include wf ok hpi in
/-- the interpreter's own order is gone on with, over new blocks that the model may come to later -/
theorem settle:∀(n:Nat){A rem:List Nat}{v:Nat→AV}{h:H}{μ:Mu}{w:World}{S:Nat→Bool}{gs:Nat→Option Go.Den.P},rem.length≤n→A++rem=pi→(∀i,S i=true→i∈A)→Facts P ops E call f0 A S gs v h→GsOk A S h0 h μ gs→Sim μ h w→Ext' μ0 h0 w0 μ h w→TailG ops E call f0 Kf A v h rem→
    ∃A' v' h' rem' gs',A'++rem'=pi∧(∀i∈A,i∈A')∧ExtV A v v'∧Facts P ops E call f0 A' S gs' v' h'∧GsOk A' S h0 h' μ gs'∧Sim μ h' w∧Ext' μ0 h0 w0 μ h' w∧Tail ops E call f0 Kf A' v' h' rem':=by
  intro n
  induction n with
  |zero=>
    intro A rem v h μ w S gs hle all sub facts gok s x tl
    cases tl with
    |tl tl=>exact⟨A,v,h,rem,gs,all,fun _ h=>h,.refl _ _,facts,gok,s,x,tl⟩
    |ghost=>simp at hle
  |succ n ih=>
    intro A rem v h μ w S gs hle all sub facts gok s x tl
    cases tl with
    |tl tl=>exact⟨A,v,h,rem,gs,all,fun _ h=>h,.refl _ _,facts,gok,s,x,tl⟩
    |ghost hs ho hn hst hx hg=>
      rename_i B e f' o rl C
      have dcA:=dc_pre hpi A _ all.symm
      have hrA:Rdy ops (asg A) e:=hpi A e B all.symm
      have hview:=hs.view wf dcA ho hn hrA
      obtain⟨u,ob,hk,hfr⟩:=fresh_of ok hst.fresh hx
      have hk:=coK_inv hk
      obtain⟨hC,hrl⟩:=rlooks_inv hst.kinds hk
      have hext:ExtV A v (upd v e (u h.next)):=upd_ext hn
      have hsub':=hs.snoc wf dcA ho hn (u h.next)
      have dcA':DC ops (asg (A++[e])):=by rw[asg_snoc];exact dcA.insert hrA
      cases hg with
      |mk hg=>
        obtain⟨v2,A1,rem',e1,he2,hf2,tl2⟩:=(hg _ _ _ hext hsub' hC).tail
        have hextA:ExtV A v v2:=hext.trans he2 fun j hj=>List.mem_append_left _ hj
        have hv2e:v2 e=u h.next:=by rw[he2 e (by simp)];simp[upd]
        have hagree:∀l∈A,∀j,j=l∨Anc ops l j→v j=v2 j:=fun l hl j hj=>by
          have hjA:j∈A:=by
            rcases hj with rfl|hj
            · exact hl
            · exact asg_true.1 (dcA.anc (asg_true.2 hl) hj)
          exact(hextA j hjA).symm
        have hsucc:(h.new ob).next.nat=h.next.nat+1:=Go.Den.P.nat_succ _
        have gsn:∀j,j≠e→upd gs e (some h.next) j=gs j:=fun j hj=>by simp[upd,hj]
        have hSe:S e=false:=by
          cases hh:S e with
          |false=>rfl
          |true=>exact absurd (sub e hh) hn
        have facts2:Facts P ops E call f0 (A++[e]++A1) S (upd gs e (some h.next)) v2 (h.new ob):=by
          intro l hl hsl
          by_cases hle:l=e
          · subst hle
            refine .inr ⟨h.next,by simp[upd],o,f',u,ob,ho,hst.fresh,hst.guard,fun t ht=>?_,hfr,hv2e,by rw[at_new,if_pos rfl]⟩
            rw[←FA_congr (v:=v) fun j hj=>(hextA j (asg_true.1 (hrA.anc dcA hj))).symm]
            exact hview t ht
          · rw[gsn l hle]
            by_cases hlA:l∈A
            · rcases facts l hlA hsl with⟨hg0,ol,hol,hfl⟩|⟨p,hp,hgh⟩
              · exact .inl ⟨hg0,Fact.congr wf (hagree l hlA) (relook_ok dcA hs ho hn hrl hlA hol hfl (hst.look l ol hlA hol))⟩
              · refine .inr ⟨p,hp,hgh.congr (hagree l hlA) ?_⟩
                have:=(gok.1 l p hp).2.2.1
                rw[at_new,if_neg (fun e=>by rw[e] at this;omega)]
            · refine .inl ⟨?_,hf2 l ?_⟩
              · cases hgl:gs l with
                |none=>rfl
                |some p=>exact absurd (gok.1 l p hgl).1 hlA
              · rcases List.mem_append.1 hl with hl|hl
                · rcases List.mem_append.1 hl with hl|hl
                  · exact absurd hl hlA
                  · exact absurd (List.mem_singleton.1 hl) hle
                · exact hl
        have gok2:GsOk (A++[e]++A1) S h0 (h.new ob) μ (upd gs e (some h.next)):=by
          refine⟨fun j p hj=>?_,fun j k p hj hk=>?_⟩
          · by_cases hje:j=e
            · subst hje
              have:some h.next=some p:=by simpa[upd] using hj
              cases this
              exact⟨by simp,x.ghost.1,by omega,fun _=>s.none (Nat.le_refl _)⟩
            · rw[gsn j hje] at hj
              obtain⟨a1,a2,a3,a4⟩:=gok.1 j p hj
              exact⟨by simp[a1],a2,by omega,a4⟩
          · have key:∀j,j≠e→gs j=some h.next→False:=fun j _ hj=>by
              have:=(gok.1 j _ hj).2.2.1;omega
            by_cases hje:j=e
            · by_cases hke:k=e
              · rw[hje,hke]
              · rw[gsn k hke] at hk
                rw[hje] at hj
                have:some h.next=some p:=by simpa[upd] using hj
                cases this
                exact(key k hke hk).elim
            · by_cases hke:k=e
              · rw[gsn j hje] at hj
                rw[hke] at hk
                have:some h.next=some p:=by simpa[upd] using hk
                cases this
                exact(key j hje hj).elim
              · rw[gsn j hje] at hj;rw[gsn k hke] at hk;exact gok.2 j k p hj hk
        have all2:A++[e]++A1++rem'=pi:=by rw[←all,e1];simp
        obtain⟨A',v',h',rem'',gs',c1,c2,c3,c4,c5,c6,c7,c8⟩:=ih (by rw[e1] at hle;simp at hle;omega) all2 (fun j hj=>by simp[sub j hj]) facts2 gok2 (s.ghost ob) (x.ghostly s ob) tl2
        exact⟨A',v',h',rem'',gs',c1,fun j hj=>c2 j (by simp[hj]),hextA.trans c3 fun j hj=>by simp[hj],c4,c5,c6,c7,c8⟩
include wf ok hcall hQ hpi hall
theorem inv_end{S:Nat→Bool}{a:Act}{w:World}(inv:Inv P ops E N G D call f0 Kf μ0 h0 w0 pi S a w)(hallS:∀i,i<ops.size→S i=true):Q .normal a w:=by
  have _u1:=wf
  have _u2:=ok
  have _u3:=hcall
  have _u4:=hpi
  have _u5:=hall
  obtain⟨A,v,h,μ,rem,gs,dcS,sub,fr,s,x,gl,_,_,_,tl⟩:=inv.ex
  cases tl with
  |stop hs ho hw hn hst hx hg=>
    have:=sub _ (hallS _ (Array.getElem?_eq_some_iff.1 ho).1)
    exact absurd this hn
  |fin hs hk=>
    refine hQ μ _ h a w ⟨fr.size,fun t=>?_,fr.defs⟩ s x gl hk
    rcases hs t with h|h
    · rw[h];trivial
    · have e:FS ops v f0 (asg A) ops.size t=FS ops v f0 S ops.size t:=FS_ext fun j hj _=>⟨by rw[hallS j hj,asg_true.2 (sub j (hallS j hj))],fun _=>rfl⟩
      rw[h,e];exact fr.get t
theorem inv_step{ro:Option Nat}{S:Nat→Bool}{a:Act}{w:World}(inv:Inv P ops E N G D call f0 Kf μ0 h0 w0 pi S a w){i:Nat}(hlt:i<ops.size)(hi:S i=false)(hr:Rdy ops S i){next:Act→World→Prop}
    (hn:∀a' w',Inv P ops E N G D call f0 Kf μ0 h0 w0 pi (upd S i true) a' w'→next a' w'):wpOpIn (Fo ro) 0 P ops Q i next a w:=by
  have _u1:=hQ
  obtain⟨A,v,h,μ,rem,gs,dcS,sub,fr,s,x,gl,facts,gok,all,tl⟩:=inv.ex
  have dcA:=dc_pre hpi A rem all.symm
  have dcS':DC ops (upd S i true):=dcS.insert hr
  by_cases hiA:i∈A
  · have subA:∀j,upd S i true j=true→j∈A:=fun j hj=>by
      by_cases e:j=i
      · rw[e];exact hiA
      · exact sub j (by simpa[upd,e] using hj)
    have unS:∀j,upd S i true j=false→j≠i∧S j=false:=fun j hs=>by
      have e:j≠i:=fun e=>by simp[upd,e] at hs
      exact⟨e,by simpa[upd,e] using hs⟩
    have facts':Facts P ops E call f0 A (upd S i true) gs v h:=fun j hj hs=>facts j hj (unS j hs).2
    rcases facts i hiA hi with⟨_,hfact⟩|⟨p,hp,hgh⟩
    · refine did_wp wf ok hcall hfact dcS hi hr fr s gl fun μ' a' w' fr' s' x'=>hn a' w' ⟨A,v,h,μ',rem,gs,dcS',subA,fr',s',x.trans x',gl.mono x'.le,facts',⟨fun j q hj=>?_,gok.2⟩,all,tl⟩
      obtain⟨a1,a2,a3,a4⟩:=gok.1 j q hj
      exact⟨a1,a2,a3,fun hs=>(x'.ghost.2 q a3 (a4 (unS j hs).2)).1⟩
    · obtain⟨o,fi,u,ob,ho,hfr,hgd,hfi,hfo,hvi,hat⟩:=hgh.ex
      obtain⟨_,hp0,hpn,hpm⟩:=gok.1 i p hp
      have hpm:=hpm hi
      have hok:=wf.ok o (Array.mem_of_getElem? ho)
      simp only[okOper,Bool.and_eq_true] at hok
      have hopn:∀x∈o.op.operands.toList,okOpnd G x=true:=by
        have hop:=hok.2
        simp only[okOp,Bool.and_eq_true] at hop
        exact fun x hx=>(List.all_eq_true.1 hop.1) x hx
      obtain⟨sem,he,hfresh⟩:=hfo (μ:=μ) (a:=a) fun x hx=>by
        refine eval_ok (C:=CP E) gl (hopn x hx) fun t ht=>?_
        subst ht
        have htl:t∈o.looksAt ops:=List.mem_append_left _ (List.mem_filterMap.2 ⟨.tmp t,hx,rfl⟩)
        show VR μ (fi t) (a.tmps.getD t undef)
        rcases hfi t htl with h|h
        · rw[h];trivial
        · rw[h,←FA_agree wf dcS ho hi hr htl];exact fr.get t
      obtain⟨val,obj,sz,hrun,hh⟩:=hfresh w
      obtain⟨hle,s'⟩:=s.fill hpn hpm (fun μ' hle=>by rw[hat];exact(hh μ' hle).1)
      have x':=x.fill hp0 hpm obj sz
      have hself:upd v i (v i)=v:=by funext j;simp only[upd];split<;>simp_all
      have hput:=FS_put (v:=v) (f0:=f0) wf dcS ho hi (a:=v i)
      rw[hself] at hput
      unfold wpOpIn
      rw[ho]
      simp only
      rw[if_pos (by unfold Region.wanted;rw[hgd])]
      refine wpIn_of (fun c hc=>by rw[hc] at hfr;cases hfr) ?_
      rw[he o rfl,run_bind_ok hrun]
      refine hn _ _ ⟨A,v,h,_,rem,gs,dcS',subA,?_,s',x',gl.mono hle,facts',⟨fun j q hj=>?_,gok.2⟩,all,tl⟩
      · rw[hput]
        refine(fr.mono hle).put hok.1 ?_
        rw[hvi]
        exact(hh _ hle).2 p (Mu.set_same _ _ _)
      · obtain⟨a1,a2,a3,a4⟩:=gok.1 j q hj
        refine⟨a1,a2,a3,fun hs=>?_⟩
        obtain⟨hji,hsj⟩:=unS j hs
        rw[Mu.set_other _ _ (fun e=>hji (gok.2 j i p (by rw[←e];exact hj) hp))]
        exact a4 hsj
  · have hrem:i∈rem:=by
      rcases List.mem_append.1 (all▸hall i hlt) with h|h
      · exact absurd h hiA
      · exact h
    cases tl with
    |fin=>cases hrem
    |stop hs ho hw hnA hst hx hg=>
      rename_i B e f' o rl C
      have hie:i=e:=by
        rcases List.mem_cons.1 hrem with h|h
        · exact h
        · have:=sub e (hr.anc dcS (hst.later i h))
          exact absurd this hnA
      subst hie
      have hok:=wf.ok o (Array.mem_of_getElem? ho)
      simp only[okOper,Bool.and_eq_true] at hok
      have hrA:Rdy ops (asg A) i:=fun o' e' h1 h2 h3=>asg_true.2 (sub _ (hr o' e' h1 h2 h3))
      have hview:=hs.view wf dcA ho hiA hrA
      have hlookS:∀t∈o.looksAt ops,f' t=.top∨f' t=FS ops v f0 S ops.size t:=fun t ht=>by
        rcases hview t ht with h|h
        · exact .inl h
        · right;rw[h];exact(FA_agree wf dcS ho hi hr ht).symm
      have hwant:Region.wanted o (yielded ops a.tmps)=true:=by
        unfold Region.wanted
        cases hgd:o.guard with
        |none=>rfl
        |some p=>
          obtain⟨g,w'⟩:=p
          obtain⟨hga,gd,hd,hu⟩:=wf.guard i o g w' ho hgd
          have hv:=fr.get gd
          rw[FS_guard hd hu (hr.anc dcS hga),hw g w' hgd] at hv
          have hv:a.tmps.getD gd undef=.bool w':=hv
          have hltg:gd<a.tmps.size:=by
            obtain⟨og,hog,hdg⟩:=dst_inv hd
            have:=wf.ok og (Array.mem_of_getElem? hog)
            simp only[okOper,Bool.and_eq_true] at this
            rw[hdg] at this
            exact Nat.lt_of_lt_of_le (by simpa[okDst] using this.1) fr.size
          show(yielded ops a.tmps g==some w')=true
          rw[yielded_eq,show((ops[g]?).bind (·.dst))=some gd from hd]
          show(yb (a.tmps[gd]?)==some w')=true
          have:a.tmps[gd]? =some (.bool w'):=by
            rw[Array.getD_eq_getD_getElem?,Array.getElem?_eq_getElem hltg] at hv
            rw[Array.getElem?_eq_getElem hltg]
            exact congrArg some hv
          rw[this];simp[yb]
      unfold wpOpIn
      rw[ho]
      simp only
      rw[if_pos hwant]
      have hopn:∀x∈o.op.operands.toList,okOpnd G x=true:=by
        have hop:=hok.2
        simp only[okOp,Bool.and_eq_true] at hop
        exact fun x hx=>(List.all_eq_true.1 hop.1) x hx
      refine exec_wp (C:=CP E) (good:=fun p=>p) (fun h=>h) ok hcall hok.2 (fun x hx=>?_) s gl (exec2_of hx) ?_
      · refine eval_ok (C:=CP E) gl (hopn x hx) fun t ht=>?_
        subst ht
        have htl:t∈o.looksAt ops:=List.mem_append_left _ (List.mem_filterMap.2 ⟨.tmp t,hx,rfl⟩)
        show VR μ (f' t) (a.tmps.getD t undef)
        rcases hlookS t htl with h|h
        · rw[h];trivial
        · rw[h];exact fr.get t
      · intro μ' u h' val w' s' x' hv hk
        have hk:=coK_inv hk
        obtain⟨hC,hrl⟩:=rlooks_inv hst.kinds hk
        have hext:ExtV A v (upd v i u):=upd_ext hiA
        have hsub':=hs.snoc wf dcA ho hiA u
        have dcA':DC ops (asg (A++[i])):=by rw[asg_snoc];exact dcA.insert hrA
        cases hg with
        |mk hg=>
          obtain⟨v2,A1,rem',e1,he2,hf2,tl2⟩:=(hg _ _ _ hext hsub' hC).tail
          have hextA:ExtV A v v2:=hext.trans he2 fun j hj=>List.mem_append_left _ hj
          have hv2i:v2 i=u:=by rw[he2 i (by simp)];simp[upd]
          have subS:∀j,upd S i true j=true→j∈A++[i]:=fun j hj=>by
            by_cases e:j=i
            · rw[e];simp
            · exact List.mem_append_left _ (sub j (by simpa[upd,e] using hj))
          have hFS:FS ops v2 f0 (upd S i true) ops.size=Den.fput (FS ops v f0 S ops.size) o.dst u:=by
            rw[←FS_of he2 subS,FS_put wf dcS ho hi]
          have hagree:∀l∈A,∀j,j=l∨Anc ops l j→v j=v2 j:=fun l hl j hj=>by
            have hjA:j∈A:=by
              rcases hj with rfl|hj
              · exact hl
              · exact asg_true.1 (dcA.anc (asg_true.2 hl) hj)
            exact(hextA j hjA).symm
          have gsi:∀j,j∉A→gs j=none:=fun j hj=>by
            cases hgj:gs j with
            |none=>rfl
            |some p=>exact absurd (gok.1 j p hgj).1 hj
          have unS:∀j,upd S i true j=false→j≠i∧S j=false:=fun j hs=>by
            have e:j≠i:=fun e=>by simp[upd,e] at hs
            exact⟨e,by simpa[upd,e] using hs⟩
          -- what was done ahead still holds of the new memory
          have facts2:Facts P ops E call f0 (A++[i]++A1) (upd S i true) gs v2 h':=by
            intro l hl hsl
            obtain⟨hli,hsl⟩:=unS l hsl
            by_cases hlA:l∈A
            · have hanc:¬Anc ops i l:=fun h=>by rw[hr.anc dcS h] at hsl;cases hsl
              rcases facts l hlA hsl with⟨hg0,ol,hol,hfl⟩|⟨p,hp,hgh⟩
              · refine .inl ⟨hg0,Fact.congr wf (hagree l hlA) (relook_ok dcA hs ho hiA hrl hlA hol hfl fun hk1=>?_)⟩
                rcases hst.look l ol hlA hol hk1 with h|hmem
                · exact absurd h hanc
                · rcases hst.rl l ol hlA hol hk1 with h|hh
                  · exact absurd h hanc
                  · exact⟨hmem,hh⟩
              · obtain⟨_,_,a3,a4⟩:=gok.1 l p hp
                exact .inr ⟨p,hp,hgh.congr (hagree l hlA) (x'.ghost.2 p a3 (a4 hsl)).2⟩
            · refine .inl ⟨gsi l hlA,hf2 l ?_⟩
              rcases List.mem_append.1 hl with hl|hl
              · rcases List.mem_append.1 hl with hl|hl
                · exact absurd hl hlA
                · exact absurd (List.mem_singleton.1 hl) hli
              · exact hl
          have gok2:GsOk (A++[i]++A1) (upd S i true) h0 h' μ' gs:=by
            refine⟨fun j p hj=>?_,gok.2⟩
            obtain⟨a1,a2,a3,a4⟩:=gok.1 j p hj
            exact⟨by simp[a1],a2,Nat.lt_of_lt_of_le a3 x'.ghost.1,fun hs=>(x'.ghost.2 p a3 (a4 (unS j hs).2)).1⟩
          obtain⟨A',v',hh',rem'',gs',c1,c2,c3,c4,c5,c6,c7,c8⟩:=settle wf ok hpi rem'.length (Nat.le_refl _) (by rw[←all,e1];simp) (fun j hj=>List.mem_append_left _ (subS j hj)) facts2 gok2 s' (x.trans x') tl2
          refine hn _ w' ⟨A',v',hh',μ',rem'',gs',dcS',fun j hj=>c2 j (List.mem_append_left _ (subS j hj)),?_,c6,c7,gl.mono x'.le,c4,c5,c1,c8⟩
          rw[←FS_of c3 (fun j hj=>List.mem_append_left _ (subS j hj)),hFS]
          exact(fr.mono x'.le).put hok.1 hv
theorem any_ok{ro:Option Nat}:∀(fuel:Nat)(listed:Array Bool)(a:Act)(w:World),listed.size=ops.size→(List.range ops.size).countP (fun j=>!listed.getD j false)≤fuel→Inv P ops E N G D call f0 Kf μ0 h0 w0 pi (fun j=>listed.getD j false) a w→wpAnyIn (Fo ro) 0 P .any ops Q fuel listed a w:=by
  have fin:∀(listed:Array Bool)(a:Act)(w:World),listed.size=ops.size→Inv P ops E N G D call f0 Kf μ0 h0 w0 pi (fun j=>listed.getD j false) a w→Region.ready .any ops listed=[]→Q .normal a w:=by
    intro listed a w hsz inv hr
    refine inv_end wf ok hcall hpi hall hQ inv fun i hi=>?_
    -- the least one that was not done would be ready
    have key:∀n,∀i,i<n→i<ops.size→listed.getD i false=true:=by
      intro n
      induction n with
      |zero=>intro i h;omega
      |succ n ih=>
        intro i h hlt
        cases hl:listed.getD i false with
        |true=>rfl
        |false=>
          exfalso
          have hmem:i∈Region.ready .any ops listed:=by
            rw[mem_ready]
            refine⟨?_,ops[i],Array.getElem?_eq_getElem hlt,fun e he hb=>?_⟩
            · rw[Array.getD_eq_getD_getElem?,Array.getElem?_eq_getElem (by omega)] at hl ⊢;exact hl
            · have hlt':=wf.lt i _ e (Array.getElem?_eq_getElem hlt) he hb
              exact ih e.on (by omega) (by omega)
          rw[hr] at hmem;cases hmem
    exact key (i+1) i (by omega) hi
  intro fuel
  induction fuel with
  |zero=>
    intro listed a w hsz hc inv
    have hall:∀i,i<ops.size→listed.getD i false=true:=fun i hi=>by
      have h0:(List.range ops.size).countP (fun j=>!listed.getD j false)=0:=by omega
      have:=List.countP_eq_zero.1 h0 i (List.mem_range.2 hi)
      simpa using this
    have hr:Region.ready .any ops listed=[]:=by
      rw[List.eq_nil_iff_forall_not_mem]
      intro j hj
      obtain⟨h1,o,ho,_⟩:=mem_ready.1 hj
      have hlt:=(Array.getElem?_eq_some_iff.1 ho).1
      have:=hall j hlt
      rw[Array.getD_eq_getD_getElem?,Array.getElem?_eq_getElem (by omega)] at h1 this
      rw[show(some (listed[j]'(by omega))).getD true=(some (listed[j]'(by omega))).getD false from rfl,this] at h1
      cases h1
    exact⟨hr,fin listed a w hsz inv hr⟩
  |succ fuel ih=>
    intro listed a w hsz hc inv
    refine⟨fin listed a w hsz inv,fun i hi=>?_⟩
    obtain⟨h1,o,ho,hdeps⟩:=mem_ready.1 hi
    have hlt:=(Array.getElem?_eq_some_iff.1 ho).1
    have hS:listed.getD i false=false:=by
      rw[Array.getD_eq_getD_getElem?,Array.getElem?_eq_getElem (by omega)] at h1 ⊢;exact h1
    refine inv_step wf ok hcall hpi hall hQ inv hlt hS (fun o' e h1 h2 h3=>by rw[ho] at h1;cases h1;exact hdeps e h2 h3) fun a' w' inv'=>?_
    refine ih _ a' w' (by simp[hsz]) ?_ ?_
    · have e:(fun j=>!(listed.setIfInBounds i true).getD j false)=fun j=>!upd (fun j=>listed.getD j false) i true j:=by
        have:=getD_listed (listed:=listed) (i:=i) (by omega)
        funext j
        rw[←congrFun this j]
      rw[e]
      have:=count_upd (S:=fun j=>listed.getD j false) hS ops.size hlt
      omega
    · rw[getD_listed (by omega)];exact inv'
end
end
end Go.Den
/-
  Regions whose order is drawn: what is asked of them, as a program reckons it.
-/
namespace Go.Den
open Go.RowKit
open Classical

noncomputable def fB (n:Nat) (K:Nat→Bool):Bool:=Nat.rec false (fun m _=>K m) (Nat.succ n)
noncomputable def fL (l:List Nat):(List Nat→Bool)→Bool:=List.rec (motive:=fun _=>(List Nat→Bool)→Bool) (fun K=>K []) (fun x _ ih K=>fB x (fun x=>ih (fun l=>K (x::l)))) l
theorem fL_eq:∀(l:List Nat)(K:List Nat→Bool),fL l K=K l
  |[],_=>rfl
  |x::l,K=>fL_eq l (fun l=>K (x::l))
noncomputable def memB (i:Nat) (l:List Nat):Bool:=List.rec false (fun x _ ih=>Bool.rec ih true (Nat.beq x i)) l
theorem memB_iff{i:Nat}:∀{l:List Nat},memB i l=true↔i∈l
  |[]=>by simp[memB]
  |x::l=>by
    have ih:=memB_iff (i:=i) (l:=l)
    show(Bool.rec (memB i l) true (Nat.beq x i):Bool)=true↔_
    cases h:Nat.beq x i with
    |true=>simp[beq_inv h]
    |false=>
      have hne:x≠i:=fun e=>by rw[e,Nat.beq_refl] at h;cases h
      rw[List.mem_cons,←ih]
      exact⟨.inr,fun h=>h.resolve_left (fun e=>hne e.symm)⟩
noncomputable def allL {α:Type} (p:α→Bool) (l:List α):Bool:=List.rec true (fun x _ ih=>Bool.rec false ih (p x)) l
theorem allL_iff{α:Type}{p:α→Bool}:∀{l:List α},allL p l=true↔∀x∈l,p x=true
  |[]=>by simp[allL]
  |x::l=>by
    have ih:=allL_iff (p:=p) (l:=l)
    show(Bool.rec false (allL p l) (p x):Bool)=true↔_
    cases h:p x with
    |true=>simp[h,ih]
    |false=>simp[h]
/-- numbers as digits -/
theorem bit_test(m i:Nat):bit m i=Nat.testBit m i:=by
  unfold bit
  rw[Nat.testBit_eq_decide_div_mod_eq,natbeq]
  show decide ((m >>> i)%2=1)=_
  rw[Nat.shiftRight_eq_div_pow]
noncomputable def maskL (l:List Nat):Nat:=List.rec 0 (fun t _ ih=>Nat.lor (Nat.shiftLeft 1 t) ih) l
theorem one_shift(t i:Nat):Nat.testBit (Nat.shiftLeft 1 t) i=decide (t=i):=by
  show Nat.testBit (1 <<< t) i=_
  rw[Nat.shiftLeft_eq,Nat.one_mul,Nat.testBit_two_pow]
theorem maskL_iff{i:Nat}:∀{l:List Nat},bit (maskL l) i=true↔i∈l
  |[]=>by rw[bit_test];show Nat.testBit 0 i=true↔_;simp
  |t::l=>by
    have ih:=maskL_iff (i:=i) (l:=l)
    rw[bit_test] at ih ⊢
    show Nat.testBit (Nat.shiftLeft 1 t|||maskL l) i=true↔_
    rw[Nat.testBit_or,one_shift,Bool.or_eq_true,ih]
    simp only[decide_eq_true_eq,List.mem_cons]
    exact⟨fun h=>h.imp Eq.symm id,fun h=>h.imp Eq.symm id⟩

section
variable(P:Program)(E:Env)(N G:Nat)(ops:List Oper)(ms ls:List Nat)
noncomputable def gN (l:List Nat) (i:Nat):Nat:=Option.rec 0 (fun m=>m) (getL l i)
noncomputable def dstB (o:Oper) (d:Nat):Bool:=Option.rec false (fun e=>Nat.beq e d) o.dst
/-- nothing of one is the other's -/
noncomputable def apartB (x y:Oper) (lx ly:Nat):Bool:=band (Option.rec true (fun d=>band (bnot (bit ly d)) (bnot (dstB y d))) x.dst) (Option.rec true (fun d=>bnot (bit lx d)) y.dst)
noncomputable def pairB (i:Nat) (x:Oper) (j:Nat) (y:Oper):Bool:=Bool.rec (Bool.rec (apartB x y (gN ls i) (gN ls j)) true (bit (gN ms j) i)) true (bit (gN ms i) j)
noncomputable def pairsB (i:Nat) (x:Oper) (l:List Oper):Nat→Bool:=List.rec (motive:=fun _=>Nat→Bool) (fun _=>true) (fun y _ ih j=>band (pairB ms ls i x j y) (ih (Nat.add j 1))) l
noncomputable def allPairs (l:List Oper):Nat→Bool:=List.rec (motive:=fun _=>Nat→Bool) (fun _=>true) (fun x r ih i=>band (pairsB ms ls i x r (Nat.add i 1)) (ih (Nat.add i 1))) l
noncomputable def edgesLt (i:Nat) (o:Oper):Bool:=allL (fun e=>Bool.rec true (Nat.ble (Nat.add e.on 1) i) (Region.binds .any e)) o.after.toList
/-- a guard's temporary is written by the guard alone -/
noncomputable def onlyW (d g:Nat) (l:List Oper):Nat→Bool:=List.rec (motive:=fun _=>Nat→Bool) (fun _=>true) (fun y _ ih j=>band (Bool.rec true (Nat.beq j g) (dstB y d)) (ih (Nat.add j 1))) l
noncomputable def guardB (o:Oper):Bool:=Option.rec true (fun p=>band (bnot (allL (fun e=>bnot (band (Region.binds .any e) (Nat.beq e.on p.1))) o.after.toList)) (Option.rec false (fun og=>Option.rec false (fun d=>onlyW d p.1 ops 0) og.dst) (getL ops p.1))) o.guard
noncomputable def eachB (l:List Oper):Nat→Bool:=List.rec (motive:=fun _=>Nat→Bool) (fun _=>true) (fun o _ ih i=>band (band (okOper P E N G o) (band (edgesLt i o) (guardB ops o))) (ih (Nat.add i 1))) l
noncomputable def rdyB (o:Oper) (A:List Nat):Bool:=allL (fun e=>Bool.rec true (memB e.on A) (Region.binds .any e)) o.after.toList
/-- those that write a temporary stand ahead -/
noncomputable def writersB (m t:Nat) (l:List Oper):Nat→Bool:=List.rec (motive:=fun _=>Nat→Bool) (fun _=>true) (fun y _ ih j=>band (Bool.rec true (bit m j) (dstB y t)) (ih (Nat.add j 1))) l
noncomputable def relookB (l:Nat) (ol:Oper):Bool:=band (Option.rec false (fun d=>onlyW d l ops 0) ol.dst) (allL (fun t=>writersB (gN ms l) t ops 0) (ol.looksAt ops.toArray))
noncomputable def lookB (i:Nat) (rl:List (Nat×Oper)) (l:Nat):Bool:=Option.rec true (fun ol=>Bool.rec true (Bool.rec (band (memB l (rl.map (·.1))) (relookB ops ms l ol)) true (bit (gN ms i) l)) (Nat.beq (kindOf E ol.op) 1)) (getL ops l)
noncomputable def stopB (i:Nat) (rl:List (Nat×Oper)) (A B:List Nat):Bool:=band (allL (fun j=>bit (gN ms j) i) B) (band (allL (lookB E ops ms i rl) A) (allL (fun p=>Nat.ble (kindOf E p.2.op) 1) rl))
noncomputable def lookF (rl:List (Nat×Oper)) (l:Nat):Bool:=Option.rec true (fun ol=>Bool.rec true (band (memB l (rl.map (·.1))) (relookB ops ms l ol)) (Nat.beq (kindOf E ol.op) 1)) (getL ops l)
def noGd(g:Option (Nat×Bool)):Bool:=match g with
  |none=>true
  |some _=>false
noncomputable def freshB (o:Oper) (rl:List (Nat×Oper)) (A:List Nat):Bool:=band (band (isFresh o.op) (noGd o.guard)) (band (allL (lookF E ops ms rl) A) (allL (fun p=>Nat.ble (kindOf E p.2.op) 1) rl))
noncomputable def okDB (its:Dr):Option (Nat×Bool)→List Nat→List Nat→List Nat→Bool:=Dr.rec (motive:=fun _=>Option (Nat×Bool)→List Nat→List Nat→List Nat→Bool)
  (fun _ _ _ _=>true)
  (fun i o rl r ih g lv A rest=>band (band (sameG o.guard g) (band (bnot (memB i A)) (rdyB o A))) (band (Bool.rec (List.rec true (fun _ _ _=>false) rl) (Bool.rec (freshB E ops ms o rl A) true (stopB E ops ms i rl A (r.idx++rest))) (Nat.beq (kindOf E o.op) 2)) (ih g (i::lv) (A++[i]) rest)))
  (fun j gd w b ip pk r ihb ihr g lv A rest=>band (band (Option.rec false (fun o=>dstB o gd) (getL ops j)) (band (onlyW gd j ops 0) (band (memB j A) (memB j lv)))) (band (band (sameG pk.guard g) (band (okPick G gd w pk.op) (band (bnot (memB ip (A++b.idx))) (rdyB pk (A++b.idx)))))
    (band (ihb (some (j,w)) [] A (ip::r.idx++rest)) (ihr g (ip::lv) (A++b.idx++[ip]) rest)))) its
noncomputable def okDraw (pl:List Nat):Bool:=fL (ancs ops []) (fun ms=>fL (ops.map fun o=>maskL (o.looksAt ops.toArray)) (fun ls=>
  band (eachB P E N G ops ops 0) (band (allPairs ms ls ops 0) (Option.rec true (fun its=>band (okDB E G ops ms its none [] [] []) (allL (fun i=>memB i its.idx) (List.range (len ops)))) (drOf E ops pl)))))
end
end Go.Den
/-
  Regions whose order is drawn: the check is right.
-/
namespace Go.Den
open Go.RowKit
open Classical

section
variable{P:Program}{E:Env}{N G:Nat}{D:List Deferred}{ops:Array Oper}
theorem mask_inv{acc:List Nat}{j:Nat}:∀{es:List Edge},bit (maskOf acc es) j=true→∃e∈es,Region.binds .any e=true∧(j=e.on∨bit (gN acc e.on) j=true)
  |[],h=>by rw[bit_test] at h;have h:Nat.testBit 0 j=true:=h;simp at h
  |e::es,h=>by
    have ih:=mask_inv (acc:=acc) (j:=j) (es:=es)
    have h:bit (Bool.rec (maskOf acc es) (Nat.lor (maskOf acc es) (Nat.lor (Nat.shiftLeft 1 e.on) (gN acc e.on))) (Region.binds .any e)) j=true:=h
    cases hb:Region.binds .any e with
    |false=>
      rw[hb] at h
      obtain⟨e',he',h'⟩:=ih h
      exact⟨e',List.mem_cons_of_mem _ he',h'⟩
    |true=>
      rw[hb,bit_test] at h
      have h:Nat.testBit (maskOf acc es|||(Nat.shiftLeft 1 e.on|||gN acc e.on)) j=true:=h
      rw[Nat.testBit_or,Nat.testBit_or,one_shift,Bool.or_eq_true,Bool.or_eq_true] at h
      rcases h with h|h|h
      · rw[←bit_test] at h
        obtain⟨e',he',h'⟩:=ih h
        exact⟨e',List.mem_cons_of_mem _ he',h'⟩
      · exact⟨e,by simp,hb,.inl (of_decide_eq_true h).symm⟩
      · exact⟨e,by simp,hb,.inr (by rw[bit_test];exact h)⟩
theorem gN_eq(l:List Nat)(i:Nat):gN l i=l[i]?.getD 0:=by
  unfold gN;rw[getL_eq];cases l[i]?<;>rfl
theorem ancs_inv:∀(l:List Oper)(acc:List Nat),ops.toList.drop acc.length=l→(∀i j,bit (gN acc i) j=true→Anc ops i j)→∀i j,bit (gN (ancs l acc) i) j=true→Anc ops i j
  |[],_,_,h,i,j,hb=>h i j hb
  |o::l,acc,hd,h,i,j,hb=>by
    have hb:bit (gN (ancs l (appL acc [maskOf acc o.after.toList])) i) j=true:=hb
    rw[appL_eq] at hb
    have ho:ops[acc.length]? =some o:=by
      rw[←Array.getElem?_toList]
      have:=congrArg (·[0]?) hd
      simpa using this
    refine ancs_inv l (acc++[maskOf acc o.after.toList]) ?_ ?_ i j hb
    · rw[List.length_append,List.length_singleton,←List.drop_drop,hd];rfl
    · intro i j hb
      rw[gN_eq] at hb
      by_cases hi:i<acc.length
      · rw[List.getElem?_append_left hi,←gN_eq] at hb;exact h i j hb
      · by_cases he:i=acc.length
        · subst he
          rw[List.getElem?_append_right (Nat.le_refl _)] at hb
          simp only[Nat.sub_self,List.getElem?_cons_zero,Option.getD_some] at hb
          obtain⟨e,he,hbd,hj⟩:=mask_inv hb
          have hedge:=Anc.edge ho (Array.mem_toList_iff.1 he) hbd
          rcases hj with rfl|hj
          · exact hedge
          · exact hedge.trans (h _ _ hj)
        · rw[List.getElem?_eq_none (by simp;omega)] at hb
          rw[bit_test] at hb;have hb:Nat.testBit 0 j=true:=hb;simp at hb
theorem ancs_ok{i j:Nat}(h:bit (gN (ancs ops.toList []) i) j=true):Anc ops i j:=
  ancs_inv ops.toList [] rfl (fun i j h=>by rw[gN_eq,bit_test] at h;simp at h) i j h
theorem eachB_inv{l0:List Oper}:∀{l:List Oper}{i0:Nat},eachB P E N G l0 l i0=true→∀k o,l[k]? =some o→okOper P E N G o=true∧edgesLt (i0+k) o=true∧guardB l0 o=true
  |[],_,_,k,o,h=>by simp at h
  |x::l,i0,h,k,o,ho=>by
    obtain⟨h1,h2⟩:=band_inv (show band (band (okOper P E N G x) (band (edgesLt i0 x) (guardB l0 x))) (eachB P E N G l0 l (Nat.add i0 1))=true from h)
    cases k with
    |zero=>
      have e:x=o:=by simpa using ho
      subst e
      obtain⟨h3,h4⟩:=band_inv h1
      obtain⟨h4,h5⟩:=band_inv h4
      exact⟨h3,h4,h5⟩
    |succ k=>
      have:=eachB_inv h2 k o (by simpa using ho)
      rw[show Nat.add i0 1+k=i0+(k+1) from by show i0+1+k=_;omega] at this
      exact this
theorem pairsB_inv {ms ls : List Nat} {i : Nat} {x : Oper} : ∀ {l : List Oper} {j0 : Nat}, pairsB ms ls i x l j0 = true → ∀ k o, l[k]? = some o → pairB ms ls i x (j0 + k) o = true
  | [], _, _, k, o, h => by simp at h
  | y :: l, j0, h, k, o, ho => by
    obtain ⟨h1, h2⟩ := band_inv (show band (pairB ms ls i x j0 y) (pairsB ms ls i x l (Nat.add j0 1)) = true from h)
    cases k with
    | zero => have e : y = o := by simpa using ho
              subst e; exact h1
    | succ k =>
      have := pairsB_inv h2 k o (by simpa using ho)
      rw [show Nat.add j0 1 + k = j0 + (k + 1) from by show j0 + 1 + k = _; omega] at this
      exact this
theorem allPairs_inv{ms ls:List Nat}:∀{l:List Oper}{i0:Nat},allPairs ms ls l i0=true→∀k m x y,k<m→l[k]? =some x→l[m]? =some y→pairB ms ls (i0+k) x (i0+m) y=true
  |[],_,_,k,m,x,y,_,h,_=>by simp at h
  |z::l,i0,h,k,m,x,y,hkm,hx,hy=>by
    obtain⟨h1,h2⟩:=band_inv (show band (pairsB ms ls i0 z l (Nat.add i0 1)) (allPairs ms ls l (Nat.add i0 1))=true from h)
    cases m with
    |zero=>omega
    |succ m=>
      cases k with
      |zero=>
        have e:z=x:=by simpa using hx
        subst e
        have:=pairsB_inv h1 m y (by simpa using hy)
        rw[show Nat.add i0 1+m=i0+(m+1) from by show i0+1+m=_;omega] at this
        exact this
      |succ k=>
        have:=allPairs_inv h2 k m x y (by omega) (by simpa using hx) (by simpa using hy)
        rw[show Nat.add i0 1+m=i0+(m+1) from by show i0+1+m=_;omega,show Nat.add i0 1+k=i0+(k+1) from by show i0+1+k=_;omega] at this
        exact this
theorem dstB_iff{o:Oper}{d:Nat}:dstB o d=true↔o.dst=some d:=by
  unfold dstB
  cases o.dst with
  |none=>simp
  |some e=>
    show Nat.beq e d=true↔_
    rw[natbeq];simp
theorem apartB_ok{x y:Oper}{lx ly:Nat}(hx:∀t,bit lx t=true↔t∈x.looksAt ops)(hy:∀t,bit ly t=true↔t∈y.looksAt ops)(h:apartB x y lx ly=true):x.apart ops y=true∧y.apart ops x=true:=by
  obtain⟨h1,h2⟩:=band_inv h
  have a1:∀d,x.dst=some d→d∉y.looksAt ops∧y.dst≠some d:=fun d hd=>by
    rw[hd] at h1
    obtain⟨h3,h4⟩:=band_inv (show band (bnot (bit ly d)) (bnot (dstB y d))=true from h1)
    rw[bnot_eq] at h3 h4
    constructor
    · intro hm;rw[(hy d).2 hm] at h3;cases h3
    · intro he;rw[dstB_iff.2 he] at h4;cases h4
  have a2:∀d,y.dst=some d→d∉x.looksAt ops:=fun d hd=>by
    rw[hd] at h2
    have h2:bnot (bit lx d)=true:=h2
    rw[bnot_eq] at h2
    exact fun hm=>by rw[(hx d).2 hm] at h2;cases h2
  constructor
  · unfold Oper.apart
    rw[Bool.and_eq_true]
    constructor
    · cases hd:x.dst with
      |none=>rfl
      |some d=>
        obtain⟨h3,h4⟩:=a1 d hd
        simp[h3,h4]
    · cases hd:y.dst with
      |none=>rfl
      |some d=>simp[a2 d hd]
  · unfold Oper.apart
    rw[Bool.and_eq_true]
    constructor
    · cases hd:y.dst with
      |none=>rfl
      |some d=>
        have h4:x.dst≠some d:=fun he=>(a1 d he).2 hd
        simp[a2 d hd,h4]
    · cases hd:x.dst with
      |none=>rfl
      |some d=>simp[(a1 d hd).1]
theorem onlyW_inv{d g:Nat}:∀{l:List Oper}{j0:Nat},onlyW d g l j0=true→∀k o,l[k]? =some o→o.dst=some d→j0+k=g
  |[],_,_,k,o,h,_=>by simp at h
  |y::l,j0,h,k,o,ho,hd=>by
    obtain⟨h1,h2⟩:=band_inv (show band (Bool.rec true (Nat.beq j0 g) (dstB y d)) (onlyW d g l (Nat.add j0 1))=true from h)
    cases k with
    |zero=>
      have e:y=o:=by simpa using ho
      subst e
      rw[dstB_iff.2 hd] at h1
      exact beq_inv h1
    |succ k=>
      have:=onlyW_inv h2 k o (by simpa using ho) hd
      rw[show Nat.add j0 1+k=j0+(k+1) from by show j0+1+k=_;omega] at this
      exact this
theorem onlyW_ok{d g:Nat}(h:onlyW d g ops.toList 0=true):∀j,dstOf ops j=some d→j=g:=fun j hj=>by
  obtain⟨o,ho,hd⟩:=dst_inv hj
  have:=onlyW_inv h j o (by rw[Array.getElem?_toList];exact ho) hd
  omega
theorem writersB_inv{m t:Nat}:∀{l:List Oper}{j0:Nat},writersB m t l j0=true→∀k o,l[k]? =some o→o.dst=some t→bit m (j0+k)=true
  |[],_,_,k,o,h,_=>by simp at h
  |y::l,j0,h,k,o,ho,hd=>by
    obtain⟨h1,h2⟩:=band_inv (show band (Bool.rec true (bit m j0) (dstB y t)) (writersB m t l (Nat.add j0 1))=true from h)
    cases k with
    |zero=>
      have e:y=o:=by simpa using ho
      subst e
      rw[dstB_iff.2 hd] at h1
      exact h1
    |succ k=>
      have:=writersB_inv h2 k o (by simpa using ho) hd
      rw[show Nat.add j0 1+k=j0+(k+1) from by show j0+1+k=_;omega] at this
      exact this
theorem wf_of{ls:List Nat}(hls:ls=ops.toList.map fun o=>maskL (o.looksAt ops))(h1:eachB P E N G ops.toList ops.toList 0=true)(h2:allPairs (ancs ops.toList []) ls ops.toList 0=true):Wf P E N G ops:=by
  have get:∀{i:Nat}{o:Oper},ops[i]? =some o→ops.toList[i]? =some o:=fun h=>by rw[Array.getElem?_toList];exact h
  have each:=fun i o (h:ops[i]? =some o)=>eachB_inv h1 i o (get h)
  have hl:∀i o,ops[i]? =some o→∀t,bit (gN ls i) t=true↔t∈o.looksAt ops:=fun i o ho t=>by
    rw[gN_eq,hls,List.getElem?_map,get ho]
    exact maskL_iff
  refine⟨?_,?_,?_,?_⟩
  · intro i o e ho he hb
    have:=allL_iff.1 (each i o ho).2.1 e (Array.mem_toList_iff.2 he)
    rw[hb] at this
    have:=ble_inv this
    have h:e.on+1≤0+i:=this
    omega
  · intro i j oi oj hi hj hne
    have key:∀i j oi oj,ops[i]? =some oi→ops[j]? =some oj→i<j→Anc ops i j∨Anc ops j i∨(oi.apart ops oj=true∧oj.apart ops oi=true):=by
      intro i j oi oj hi hj hlt
      have h:=allPairs_inv h2 i j oi oj hlt (get hi) (get hj)
      rw[Nat.zero_add,Nat.zero_add] at h
      have h:(Bool.rec (Bool.rec (apartB oi oj (gN ls i) (gN ls j)) true (bit (gN (ancs ops.toList []) j) i)) true (bit (gN (ancs ops.toList []) i) j):Bool)=true:=h
      cases hb:bit (gN (ancs ops.toList []) i) j with
      |true=>exact .inl (ancs_ok hb)
      |false=>
        rw[hb] at h
        have h:(Bool.rec (apartB oi oj (gN ls i) (gN ls j)) true (bit (gN (ancs ops.toList []) j) i):Bool)=true:=h
        cases hb2:bit (gN (ancs ops.toList []) j) i with
        |true=>exact .inr (.inl (ancs_ok hb2))
        |false=>
          rw[hb2] at h
          exact .inr (.inr (apartB_ok (hl i oi hi) (hl j oj hj) h))
    rcases Nat.lt_or_gt_of_ne hne with h|h
    · rcases key i j oi oj hi hj h with h|h|h
      · exact .inl h
      · exact .inr (.inl h)
      · exact .inr (.inr h.1)
    · rcases key j i oj oi hj hi h with h|h|h
      · exact .inr (.inl h)
      · exact .inl h
      · exact .inr (.inr h.2)
  · intro i o g w ho hg
    have h:=(each i o ho).2.2
    unfold guardB at h
    rw[hg] at h
    obtain⟨h3,h4⟩:=band_inv (show band (bnot (allL (fun e=>bnot (band (Region.binds .any e) (Nat.beq e.on g))) o.after.toList)) (Option.rec false (fun og=>Option.rec false (fun d=>onlyW d g ops.toList 0) og.dst) (getL ops.toList g))=true from h)
    constructor
    · rw[bnot_eq] at h3
      have:∃e∈o.after.toList,bnot (band (Region.binds .any e) (Nat.beq e.on g))=false:=by
        refine Classical.byContradiction fun hn=>?_
        have:allL (fun e=>bnot (band (Region.binds .any e) (Nat.beq e.on g))) o.after.toList=true:=allL_iff.2 fun e he=>by
          cases hb:bnot (band (Region.binds .any e) (Nat.beq e.on g)) with
          |true=>rfl
          |false=>exact absurd ⟨e,he,hb⟩ hn
        rw[this] at h3;cases h3
      obtain⟨e,he,hb⟩:=this
      rw[bnot_eq] at hb
      have hb:band (Region.binds .any e) (Nat.beq e.on g)=true:=by simpa using hb
      obtain⟨hb1,hb2⟩:=band_inv hb
      have:=Anc.edge ho (Array.mem_toList_iff.1 he) hb1
      rw[beq_inv hb2] at this
      exact this
    · rw[getL_eq,Array.getElem?_toList] at h4
      cases hog:ops[g]? with
      |none=>rw[hog] at h4;cases h4
      |some og=>
        rw[hog] at h4
        have h4:(Option.rec false (fun d=>onlyW d g ops.toList 0) og.dst:Bool)=true:=h4
        cases hd:og.dst with
        |none=>rw[hd] at h4;cases h4
        |some d=>
          rw[hd] at h4
          refine⟨d,by unfold dstOf;rw[hog];exact hd,onlyW_ok h4⟩
  · intro o ho
    obtain⟨i,hi,e⟩:=Array.mem_iff_getElem.1 ho
    exact(each i o (by rw[Array.getElem?_eq_getElem hi,e])).1
/-- the operations of an order are the region's -/
def Dr.From(ops:Array Oper)(its:Dr):Prop:=Dr.rec (motive:=fun _=>Prop) True (fun i o rl _ ih=>ops[i]? =some o∧(∀p∈rl,ops[p.1]? =some p.2)∧ih) (fun _ _ _ _ ip pk _ ihb ihr=>ihb∧ops[ip]? =some pk∧ihr) its
def FromT(ops:Array Oper)(l:List Tri):Prop:=∀t∈l,ops[t.1]? =some t.2.1∧∀p∈t.2.2,ops[p.1]? =some p.2
theorem take_from{l0:List Oper}:∀(n:Nat)(g:Option (Nat×Bool))(l:List Tri),FromT ops l→Dr.From ops (takeGuardD l0 n g l).1∧FromT ops (takeGuardD l0 n g l).2:=by
  intro n
  induction n with
  |zero=>intro g l h;exact⟨trivial,h⟩
  |succ n ih=>
    intro g l h
    cases l with
    |nil=>exact⟨trivial,h⟩
    |cons o l'=>
      have ho:=h o (by simp)
      have hl':FromT ops l':=fun t ht=>h t (by simp[ht])
      show Dr.From ops (takeStepD l0 (takeGuardD l0 n) g (o::l')).1∧FromT ops (takeStepD l0 (takeGuardD l0 n) g (o::l')).2
      unfold takeStepD
      simp only
      cases hs:sameG o.2.1.guard g with
      |true=>
        simp only
        have:=ih g l' hl'
        generalize takeGuardD l0 n g l'=q at this ⊢
        obtain⟨q1,q2⟩:=q
        exact⟨⟨ho.1,ho.2,this.1⟩,this.2⟩
      |false=>
        simp only
        cases hg:o.2.1.guard with
        |none=>exact⟨trivial,h⟩
        |some p=>
          simp only
          cases gdOf l0 g p.1 with
          |none=>exact⟨trivial,h⟩
          |some gd=>
            simp only
            have hb:=ih (some p) (o::l') h
            generalize takeGuardD l0 n (some p) (o::l')=q at hb ⊢
            obtain⟨q1,q2⟩:=q
            cases q2 with
            |nil=>exact⟨trivial,h⟩
            |cons pk l''=>
              simp only
              have hpk:=hb.2 pk (by simp)
              have hc:=ih g l'' fun t ht=>hb.2 t (by simp[ht])
              generalize takeGuardD l0 n g l''=z at hc ⊢
              obtain⟨z1,z2⟩:=z
              exact⟨⟨hb.1,hpk.1,hc.1⟩,hc.2⟩
theorem rlOf_from{ms:List Nat}{m:Nat}{g:Option (Nat×Bool)}:∀{done:List (Nat×Oper)},(∀p∈done,ops[p.1]? =some p.2)→∀p∈rlOf E ms m g done,ops[p.1]? =some p.2
  |[],_,p,hp=>nomatch hp
  |d::l,h,p,hp=>by
    have hp:p∈(Bool.rec (rlOf E ms m g l) (d::rlOf E ms m g l) (band (Nat.beq (kindOf E d.2.op) 1) (band (Bool.rec (sameG d.2.guard g) true (sameG d.2.guard none)) (bnot (bit m d.1)))):List (Nat×Oper)):=hp
    have ih:=rlOf_from (ms:=ms) (m:=m) (g:=g) (done:=l) (fun q hq=>h q (by simp[hq])) p
    cases hb:band (Nat.beq (kindOf E d.2.op) 1) (band (Bool.rec (sameG d.2.guard g) true (sameG d.2.guard none)) (bnot (bit m d.1))) with
    |false=>rw[hb] at hp;exact ih hp
    |true=>
      rw[hb] at hp
      rcases List.mem_cons.1 hp with rfl|hp
      · exact h p (by simp)
      · exact ih hp
theorem triples_from{ms:List Nat}:∀(pl:List Nat)(done:List (Nat×Oper)),(∀p∈done,ops[p.1]? =some p.2)→FromT ops (triples E ops.toList ms pl done)
  |[],_,_,t,ht=>nomatch ht
  |i::pl,done,h,t,ht=>by
    have ht:t∈(Option.rec [] (fun o=>(i,o,(Bool.rec [] (rlOf E ms (maskF o.op ms i pl) o.guard done) (Nat.beq (kindOf E o.op) 2):List (Nat×Oper)))::triples E ops.toList ms pl (appL done [(i,o)])) (getL ops.toList i):List Tri):=ht
    cases hi:getL ops.toList i with
    |none=>rw[hi] at ht;cases ht
    |some o=>
      rw[hi] at ht
      have ho:ops[i]? =some o:=by rw[getL_eq,Array.getElem?_toList] at hi;exact hi
      rcases List.mem_cons.1 ht with rfl|ht
      · refine⟨ho,fun p hp=>?_⟩
        have hp:p∈(Bool.rec [] (rlOf E ms (maskF o.op ms i pl) o.guard done) (Nat.beq (kindOf E o.op) 2):List (Nat×Oper)):=hp
        cases hb:Nat.beq (kindOf E o.op) 2 with
        |false=>rw[hb] at hp;cases hp
        |true=>rw[hb] at hp;exact rlOf_from h p hp
      · refine triples_from pl _ (fun p hp=>?_) t ht
        rw[appL_eq] at hp
        rcases List.mem_append.1 hp with hp|hp
        · exact h p hp
        · rw[List.mem_singleton.1 hp];exact ho
theorem drOf_from{pl:List Nat}{its:Dr}(h:drOf E ops.toList pl=some its):its.From ops:=by
  unfold drOf at h
  have:=(take_from (ops:=ops) (l0:=ops.toList) (Nat.add (Nat.mul 2 (len ops.toList)) 2) none _ (triples_from (E:=E) (ms:=ancs ops.toList []) pl [] (fun p hp=>nomatch hp))).1
  generalize takeGuardD ops.toList (Nat.add (Nat.mul 2 (len ops.toList)) 2) none (triples E ops.toList (ancs ops.toList []) pl [])=q at h this
  obtain⟨q1,q2⟩:=q
  cases q2 with
  |nil=>cases h;exact this
  |cons=>cases h
end
end Go.Den
/-
  Regions whose order is drawn are sound, if the check says so.
-/
namespace Go.Den
open Go.RowKit
open Classical

section
variable{P:Program}{E:Env}{N G:Nat}{D:List Deferred}{ops:Array Oper}{call:Caller Prop FT}
theorem rdyB_ok{o:Oper}{A:List Nat}(h:rdyB o A=true){i:Nat}(ho:ops[i]? =some o):Rdy ops (asg A) i:=fun o' e h1 h2 h3=>by
  rw[ho] at h1;cases h1
  have:=allL_iff.1 h e (Array.mem_toList_iff.2 h2)
  rw[h3] at this
  exact asg_true.2 (memB_iff.1 this)
theorem sndL_mem{o:Oper}:∀{rl:List (Nat×Oper)},o∈sndL rl↔∃p∈rl,p.2=o
  |[]=>by simp[sndL]
  |p::rl=>by
    have ih:=sndL_mem (o:=o) (rl:=rl)
    show o∈p.2::sndL rl↔_
    rw[List.mem_cons,ih]
    simp only[List.mem_cons,exists_eq_or_imp]
    exact⟨fun h=>h.imp Eq.symm id,fun h=>h.imp Eq.symm id⟩
theorem stopB_ok{i:Nat}{rl:List (Nat×Oper)}{A B:List Nat}(hrl:∀p∈rl,ops[p.1]? =some p.2)(h:stopB E ops.toList (ancs ops.toList []) i rl A B=true):StopOk ops E i (sndL rl) A B:=by
  obtain⟨h1,h2⟩:=band_inv h
  obtain⟨h2,h3⟩:=band_inv h2
  have look:∀l ol,l∈A→ops[l]? =some ol→kindOf E ol.op=1→Anc ops i l∨(ol∈sndL rl∧relookB ops.toList (ancs ops.toList []) l ol=true):=fun l ol hl hol hk=>by
    have hb:=allL_iff.1 h2 l hl
    unfold lookB at hb
    rw[getL_eq,Array.getElem?_toList,hol] at hb
    have hb:(Bool.rec true (Bool.rec (band (memB l (rl.map (·.1))) (relookB ops.toList (ancs ops.toList []) l ol)) true (bit (gN (ancs ops.toList []) i) l)) (Nat.beq (kindOf E ol.op) 1):Bool)=true:=hb
    rw[hk] at hb
    have hb:(Bool.rec (band (memB l (rl.map (·.1))) (relookB ops.toList (ancs ops.toList []) l ol)) true (bit (gN (ancs ops.toList []) i) l):Bool)=true:=hb
    cases hbit:bit (gN (ancs ops.toList []) i) l with
    |true=>exact .inl (ancs_ok hbit)
    |false=>
      rw[hbit] at hb
      obtain⟨h5,h6⟩:=band_inv hb
      obtain⟨p,hp,hpl⟩:=List.mem_map.1 (memB_iff.1 h5)
      refine .inr ⟨sndL_mem.2 ⟨p,hp,?_⟩,h6⟩
      have:=hrl p hp
      rw[hpl,hol] at this
      exact(Option.some.inj this).symm
  refine⟨fun o ho=>?_,fun j hj=>ancs_ok (allL_iff.1 h1 j hj),fun l ol hl hol hk=>?_,fun l ol hl hol hk=>?_⟩
  · obtain⟨p,hp,rfl⟩:=sndL_mem.1 ho
    have:=ble_inv (allL_iff.1 h3 p hp)
    omega
  · exact(look l ol hl hol hk).imp id fun h=>h.1
  · refine(look l ol hl hol hk).imp id fun⟨_,h⟩=>?_
    obtain⟨h4,h5⟩:=band_inv h
    constructor
    · cases hd:ol.dst with
      |none=>rw[hd] at h4;cases h4
      |some d=>rw[hd] at h4;exact⟨d,rfl,onlyW_ok h4⟩
    · intro t ht j hj
      have:=allL_iff.1 h5 t (by simpa using ht)
      obtain⟨oj,hoj,hdj⟩:=dst_inv hj
      have:=writersB_inv this j oj (by rw[Array.getElem?_toList];exact hoj) hdj
      rw[Nat.zero_add] at this
      exact ancs_ok this
theorem freshB_ok{o:Oper}{rl:List (Nat×Oper)}{A:List Nat}(hrl:∀p∈rl,ops[p.1]? =some p.2)(h:freshB E ops.toList (ancs ops.toList []) o rl A=true):FreshOk ops E o (sndL rl) A:=by
  obtain⟨h1,h2⟩:=band_inv h
  obtain⟨h1,hgd⟩:=band_inv h1
  obtain⟨h2,h3⟩:=band_inv h2
  refine⟨h1,?_,fun o ho=>?_,fun l ol hl hol hk=>?_⟩
  · cases hg:o.guard with
    |none=>rfl
    |some=>rw[hg] at hgd;cases hgd
  · obtain⟨p,hp,rfl⟩:=sndL_mem.1 ho
    have:=ble_inv (allL_iff.1 h3 p hp)
    omega
  · have hb:=allL_iff.1 h2 l hl
    unfold lookF at hb
    rw[getL_eq,Array.getElem?_toList,hol] at hb
    have hb:(Bool.rec true (band (memB l (rl.map (·.1))) (relookB ops.toList (ancs ops.toList []) l ol)) (Nat.beq (kindOf E ol.op) 1):Bool)=true:=hb
    rw[hk] at hb
    obtain⟨h5,h6⟩:=band_inv (show band (memB l (rl.map (·.1))) (relookB ops.toList (ancs ops.toList []) l ol)=true from hb)
    obtain⟨p,hp,hpl⟩:=List.mem_map.1 (memB_iff.1 h5)
    have hrp:=hrl p hp
    rw[hpl,hol] at hrp
    obtain⟨h7,h8⟩:=band_inv h6
    refine⟨sndL_mem.2 ⟨p,hp,(Option.some.inj hrp).symm⟩,?_,?_⟩
    · cases hd:ol.dst with
      |none=>rw[hd] at h7;cases h7
      |some d=>rw[hd] at h7;exact⟨d,rfl,onlyW_ok h7⟩
    · intro t ht j hj
      have:=allL_iff.1 h8 t (by simpa using ht)
      obtain⟨oj,hoj,hdj⟩:=dst_inv hj
      have:=writersB_inv this j oj (by rw[Array.getElem?_toList];exact hoj) hdj
      rw[Nat.zero_add] at this
      exact ancs_ok this
theorem okDB_ok:∀{its:Dr}{g:Option (Nat×Bool)}{lv A rest:List Nat},its.From ops→okDB E G ops.toList (ancs ops.toList []) its g lv A rest=true→OkD ops E G its g lv A rest
  |.nil,_,_,_,_,_,_=>trivial
  |.op i o rl r,g,lv,A,rest,hf,h=>by
    obtain⟨ho,hrl,hr⟩:=hf
    obtain⟨h1,h2⟩:=band_inv (show band (band (sameG o.guard g) (band (bnot (memB i A)) (rdyB o A))) (band (Bool.rec (List.rec true (fun _ _ _=>false) rl) (Bool.rec (freshB E ops.toList (ancs ops.toList []) o rl A) true (stopB E ops.toList (ancs ops.toList []) i rl A (r.idx++rest))) (Nat.beq (kindOf E o.op) 2)) (okDB E G ops.toList (ancs ops.toList []) r g (i::lv) (A++[i]) rest))=true from h)
    obtain⟨h3,h4⟩:=band_inv h1
    obtain⟨h4,h5⟩:=band_inv h4
    obtain⟨h6,h7⟩:=band_inv h2
    refine⟨ho,sameG_eq h3,fun hm=>?_,rdyB_ok h5 ho,fun hk=>?_,fun hk=>?_,okDB_ok hr h7⟩
    · rw[memB_iff.2 hm] at h4;cases h4
    · have:Nat.beq (kindOf E o.op) 2=false:=by rw[natbeq];simp;omega
      rw[this] at h6
      cases rl with
      |nil=>rfl
      |cons=>cases h6
    · rw[hk] at h6
      have h6:(Bool.rec (freshB E ops.toList (ancs ops.toList []) o rl A) true (stopB E ops.toList (ancs ops.toList []) i rl A (r.idx++rest)):Bool)=true:=h6
      cases hb:stopB E ops.toList (ancs ops.toList []) i rl A (r.idx++rest) with
      |true=>exact .inl (stopB_ok hrl hb)
      |false=>rw[hb] at h6;exact .inr (freshB_ok hrl h6)
  |.grp j gd w b ip pk r,g,lv,A,rest,hf,h=>by
    obtain⟨hfb,hop,hfr⟩:=hf
    obtain⟨h1,h2⟩:=band_inv (show band (band (Option.rec false (fun o=>dstB o gd) (getL ops.toList j)) (band (onlyW gd j ops.toList 0) (band (memB j A) (memB j lv)))) (band (band (sameG pk.guard g) (band (okPick G gd w pk.op) (band (bnot (memB ip (A++b.idx))) (rdyB pk (A++b.idx)))))
      (band (okDB E G ops.toList (ancs ops.toList []) b (some (j,w)) [] A (ip::r.idx++rest)) (okDB E G ops.toList (ancs ops.toList []) r g (ip::lv) (A++b.idx++[ip]) rest)))=true from h)
    obtain⟨h3,h4⟩:=band_inv h1
    obtain⟨h4,h5⟩:=band_inv h4
    obtain⟨h5,h6⟩:=band_inv h5
    obtain⟨h7,h8⟩:=band_inv h2
    obtain⟨h9,h10⟩:=band_inv h7
    obtain⟨h10,h11⟩:=band_inv h10
    obtain⟨h11,h12⟩:=band_inv h11
    obtain⟨h13,h14⟩:=band_inv h8
    refine⟨?_,onlyW_ok h4,memB_iff.1 h5,memB_iff.1 h6,hop,sameG_eq h9,h10,fun hm=>?_,rdyB_ok h12 hop,okDB_ok hfb h13,okDB_ok hfr h14⟩
    · rw[getL_eq,Array.getElem?_toList] at h3
      unfold dstOf
      cases ho:ops[j]? with
      |none=>rw[ho] at h3;cases h3
      |some o=>rw[ho] at h3;exact dstB_iff.1 h3
    · rw[memB_iff.2 hm] at h11;cases h11
theorem split_mid{L M A B:List Nat}{i:Nat}(h:L++M=A++i::B):(∃B',L=A++i::B')∨(∃A',A=L++A'∧M=A'++i::B):=by
  rcases List.append_eq_append_iff.1 h with⟨z,h1,h2⟩|⟨z,h1,h2⟩
  · exact .inr ⟨z,h1,h2⟩
  · cases z with
    |nil=>simp only[List.append_nil,List.nil_append] at h1 h2;exact .inr ⟨[],by rw[h1];simp,h2.symm⟩
    |cons x z=>
      simp only[List.cons_append,List.cons.injEq] at h2
      exact .inl ⟨z,by rw[h1,h2.1]⟩
theorem okD_pre:∀{its:Dr}{g:Option (Nat×Bool)}{lv A rest:List Nat},OkD ops E G its g lv A rest→∀A' i B,its.idx=A'++i::B→Rdy ops (asg (A++A')) i
  |.nil,_,_,_,_,_,A',i,B,h=>by cases A'<;>cases h
  |.op x o rl r,_,_,A,_,hk,A',i,B,h=>by
    obtain⟨_,_,_,hr,_,_,hrr⟩:=hk
    cases A' with
    |nil=>
      have h:x::r.idx=i::B:=h
      cases h
      rw[List.append_nil];exact hr
    |cons y A'=>
      have h:x::r.idx=y::(A'++i::B):=h
      obtain⟨rfl,h'⟩:=List.cons.inj h
      have:=okD_pre hrr A' i B h'
      rw[List.append_assoc] at this;exact this
  |.grp j gd w b ip pk r,_,_,A,_,hk,A',i,B,h=>by
    obtain⟨_,_,_,_,_,_,_,_,hr,hb,hrr⟩:=hk
    rw[idx_grp] at h
    rcases split_mid h with⟨B',h1⟩|⟨A2,h1,h2⟩
    · exact okD_pre hb A' i B' h1
    · subst h1
      cases A2 with
      |nil=>cases h2;rw[List.append_nil];exact hr
      |cons y A2=>
        obtain⟨rfl,h2'⟩:=List.cons.inj h2
        have:=okD_pre hrr A2 i B h2'
        simp only[List.append_assoc,List.cons_append,List.nil_append] at this ⊢
        exact this
theorem Sim.drawn{μ:Mu}{h:H}{w:World}(s:Sim μ h w)(n:Nat):Sim μ h { w with drawn:=n }∧Ext' μ h w μ h { w with drawn:=n }:=
  ⟨⟨s.fresh,s.dead,fun b l hb hl=>(s.ob b l hb hl).world rfl,s.inj⟩,⟨.refl μ,Nat.le_refl _,fun _ _ _=>rfl,fun _ _ o=>o,⟨Nat.le_refl _,fun _ _ e=>⟨e,rfl⟩⟩,rfl,rfl,rfl⟩⟩
/-- a region whose order is drawn -/
theorem draw_ok{ro:Option Nat}(hm:P.follows .mixedOrders=true)(ok:EnvOk P E)(hcall:CallOk P (CP E) G (fun p=>p) call){pl:List Nat}(hd:okDraw P E N G ops.toList pl=true){Q:Exit→Act→World→Prop}{id:Nat}{μ:Mu}{f:FT}{h:H}{a:Act}{w:World}
    {K:FT→H→Prop} (fr:FR μ N D f a) (s:Sim μ h w) (gl:Globs μ G) (hg:oV (drOf E ops.toList pl) (fun its=>runDr E call its f h K))
    (hQ:∀μ' f' h' a' w',FR μ' N D f' a'→Sim μ' h' w'→Ext' μ h w μ' h' w'→Globs μ' G→K f' h'→Q .normal a' w'):(Code.region id ops true).wpIn (Fo ro) 0 P Q a w:=by
  obtain⟨its,hits,hrun⟩:=oV_inv hg
  unfold okDraw at hd
  rw[fL_eq,fL_eq] at hd
  obtain⟨h1,h2⟩:=band_inv hd
  obtain⟨h2,h3⟩:=band_inv h2
  rw[hits] at h3
  obtain⟨h3,h4⟩:=band_inv h3
  have wf:Wf P E N G ops:=wf_of (by simp) h1 h2
  have hok:=okDB_ok (drOf_from hits) h3
  have hpi:∀A i B,its.idx=A++i::B→Rdy ops (asg A) i:=fun A i B e=>by
    have:=okD_pre hok A i B e
    rwa [List.nil_append] at this
  have hall:∀i,i<ops.size→i∈its.idx:=fun i hi=>memB_iff.1 (allL_iff.1 h4 i (List.mem_range.2 (by rw[len_eq];simpa using hi)))
  obtain⟨s',x'⟩:=s.drawn (w.drawn+1)
  refine wpIn_region_any hm ?_
  have dc0:DC ops (asg []):=by intro i o e hi;simp[asg] at hi
  have hgood:Good ops E call f K [] (fun _=>.undef) [] (its.idx++[]) (fun f h=>runDr E call its f h K):=by
    refine good_dr wf its hok dc0 (fun _ h=>nomatch h) (fun _ _ e=>nomatch e) ?_
    rw[List.nil_append]
    refine .mk fun v f' hh hv hs hc=>.fin (.refl _ _) (fun _ h=>nomatch h) (by rw[List.append_nil];exact hs) hc
  rw[List.append_nil] at hgood
  have h0:FS ops (fun _=>AV.undef) f (asg []) ops.size=f:=by
    have:∀n,FS ops (fun _=>AV.undef) f (asg []) n=f:=by
      intro n
      induction n with
      |zero=>rfl
      |succ n ih=>simp only[FS];rw[if_neg (by simp[asg])];exact ih
    exact this _
  cases hgood with
  |mk hgood=>
    obtain⟨v,A1,rem,e1,he,hf,tl⟩:=(hgood (fun _=>.undef) f h (.refl _ _) (fun t=>.inr (by rw[h0])) hrun).tail
    rw[List.nil_append] at tl
    have hlist:(fun j=>(Array.replicate ops.size false).getD j false)=fun _=>false:=by
      funext j
      rw[Array.getD_eq_getD_getElem?,Array.getElem?_replicate]
      split<;>rfl
    refine any_ok (f0:=f) wf ok hcall hpi hall (fun μ' f' h' a' w' b1 b2 b3 b4 b5=>hQ μ' f' h' a' w' b1 b2 (x'.trans b3) b4 b5) ops.size _ a _ (by simp) ?_ ?_
    · refine Nat.le_trans List.countP_le_length ?_
      simp
    · rw[hlist]
      obtain⟨A',v',h',rem',gs',c1,c2,c3,c4,c5,c6,c7,c8⟩:=settle (P:=P) (μ0:=μ) (h0:=h) (w0:={ w with drawn:=w.drawn+1 }) (S:=fun _=>false) (gs:=fun _=>none) wf ok hpi rem.length (Nat.le_refl _) e1.symm (fun i hi=>Bool.noConfusion hi) (fun i hi _=>.inl ⟨rfl,hf i hi⟩) ⟨(fun _ _ e=>by cases e),(fun _ _ _ e=>by cases e)⟩ s' (.refl _ _ _) tl
      refine⟨⟨A',v',h',μ,rem',gs',(fun i o e hi=>Bool.noConfusion hi),(fun i hi=>Bool.noConfusion hi),?_,c6,c7,gl,c4,c5,c1,c8⟩⟩
      have:FS ops v' f (fun _=>false) ops.size=f:=by
        have:∀n,FS ops v' f (fun _=>false) n=f:=by
          intro n
          induction n with
          |zero=>rfl
          |succ n ih=>simp only[FS];rw[if_neg (by simp)];exact ih
        exact this _
      rw[this]
      exact fr
end
end Go.Den
