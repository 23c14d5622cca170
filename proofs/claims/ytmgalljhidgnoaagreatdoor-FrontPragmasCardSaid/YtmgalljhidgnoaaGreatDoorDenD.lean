/-
 Proof.
-/
import Derived.Test.YtmgalljhidgnoaaGreatDoorDenP
import Derived.Orders
import Derived.OrdersIn
open Bool renaming rec → wg, and_eq_true → vK, or_eq_true → wP, noConfusion → xm
open Nat renaming ble → vU, add → vN, beq → vS, mul → vO, lor → xB, lt_of_lt_of_le → vZ, le_refl → vE, testBit → xD, shiftLeft → xE, testBit_or → xF, zero_add → wJ
open Option renaming rec → wz, some → wU
open List renaming all_eq_true → wm, mem_append_left → xG, mem_filterMap → xH, mem_append → xI, mem_singleton → xJ, mem_cons → vw, append_assoc → vp, append_nil → vi, mem_cons_of_mem → xK, mem_append_right → xL, range → xM, countP_append → xN, mem_range → xO, countP → xP, rec → wj, mem_map → xQ, nil_append → xR, cons_append → xU, cons → ve
noncomputable section
namespace Go.Den
open Go.RowKit
def CD{β:Type}(M:(β→Prop)→Prop):Prop:=∀K,M K→∃v,K v∧∀K',K' v→M K'
theorem CD.ret{a:Type}(x:a):CD (λK=>K x):=λ_ b=>⟨x,b,λ_ b=>b⟩
theorem CD.bind{a b:Type}{A:(a→Prop)→Prop}{B:a→(b→Prop)→Prop}(c:CD A)(d:∀x,CD (B x)):CD (λK=>A (λx=>B x K)):=λK f=>by obtain⟨x,g,h⟩:=c _ f;obtain⟨v,i,j⟩:=d x _ g;exact⟨v,i,λK' k=>h _ (j K' k)⟩
theorem CD.no{β:Type}{M:(β→Prop)→Prop}(a:∀K,¬M K):CD M:=λK b=>(a K b).elim
theorem CD.of_eq{a:Type}{M N:(a→Prop)→Prop}(e:∀K,M K=N K)(b:CD M):CD N:=λK c=>by rw[←e] at c;obtain⟨v,d,f⟩:=b K c;exact⟨v,d,λK' g=>by rw[←e];exact f K' g⟩
theorem CD.ite{a:Type}{b:Bool}{M:(a→Prop)→Prop}(c:CD M):CD (λK=>(wg False (M K) b:Prop)):=by
 cases b
 · exact CD.no λ_ c=>c
 · exact c
theorem CD.Baw{a:Type}{c:Bool}{M:(a→Prop)→Prop}(b:CD M):CD (λK=>(wg Av (M K) c:Prop)):=by
 cases c
 · exact CD.no λ_ b=>CX b
 · exact b
theorem CD.Amb{a:Type}{b:Bool}{M:(a→Prop)→Prop}(c:CD M):CD (λK=>(wg (M K) False b:Prop)):=by
 cases b
 · exact c
 · exact CD.no λ_ c=>c
theorem IY(n:Nat):CD (fN n):=CD.ret n
theorem Lj(n:Int):CD (fI n):=CD.of_eq (λK=>(BW n K).symm) (CD.ret n)
theorem hI(a:IntKind)(v:U):CD (Ar a v):=λK b=>by
 obtain⟨n,rfl,c⟩:=Ja b;refine⟨n,c,λK' d=>?_⟩;show(wg Av (K' n) (ME a a):Prop);have:ME a a=true:=by cases a<;>rfl
 rw[this];exact d
theorem R0(v:U):CD (UU v):=λK a=>by obtain⟨b,n,rfl,c⟩:=Mi a;exact⟨n,c,λ_ a=>a⟩
theorem Agg(v:U):CD (Be v):=λK a=>by obtain⟨b,rfl,c⟩:=Ec a;exact⟨b,c,λ_ a=>a⟩
theorem Ny(v:U):∀{a:Type}{b:Nat→Nat→(a→Prop)→Prop},(∀l c,CD (b l c))→CD (λK=>Bv v (λl c=>b l c K)):=λd K f=>by obtain⟨l,c,rfl,g⟩:=Gx f;exact d l c K g
theorem W8(v:U):∀{a:Type}{B:P→Nat→(a→Prop)→Prop},(∀l b,CD (B l b))→CD (λK=>OW v (λl b=>B l b K)):=λc K d=>by obtain⟨l,b,rfl,f⟩:=Hg d;exact c l b K f
theorem ij(v:U):CD (EX v):=λK a=>by obtain⟨b,rfl,c⟩:=KL a;exact⟨b,c,λ_ a=>a⟩
theorem Akh(v:U):CD (asT v):=λK a=>by obtain⟨b,rfl,c⟩:=Y1 a;exact⟨b,c,λ_ a=>a⟩
theorem RU{a:Type}(o:Option a):CD (oV o):=λK b=>by obtain⟨v,rfl,c⟩:=HP b;exact⟨v,c,λ_ b=>b⟩
theorem Lg(n:Int):CD (Bo n):=λK a=>by obtain⟨b,rfl,c⟩:=HT a;exact⟨b,c,λ_ a=>a⟩
theorem RY(v:U):CD (Rf v):=(R0 v).bind λn=>Lg n
theorem Acz(v:U):CD (Bz v):=λK h=>by cases v<;>first|exact(CX h).elim|exact⟨_,h,λ_ h=>h⟩
theorem jA(sz i:Nat)(v:U):CD (A7 sz i v):=λK h=>by
 cases v<;>try exact(CX h).elim
 rename_i b o n z t;exact CD.Baw (c:=An (vU (vN i 1) n) (vS sz z)) (M:=λK=>fN (vN o (vO i sz)) (λq=>K (U.ptr b q))) ((IY _).bind λq=>CD.ret _) K h
theorem Sx(a b:Int){c:Type}{B:Nat→Nat→(c→Prop)→Prop}(d:∀x f,CD (B x f)):CD (λK=>Aqb a b (λx f=>B x f K)):=
 (Lg a).bind λx=>(Lg b).bind λf=>d x f
section
variable{E:Env}
theorem Aca(op:BinOp)(k:IntKind)(a b:Int):CD (bI op k a b):=by
 cases op
 case add=>exact(Lj _).bind λn=>CD.ret _
 case sub=>exact(Lj _).bind λn=>CD.ret _
 case mul=>exact(Lj _).bind λn=>CD.ret _
 case quo=>exact CD.Amb (M:=λK=>fI _ (λn=>K (U.int k n))) ((Lj _).bind λn=>CD.ret _)
 case rem=>exact CD.Amb (M:=λK=>fI _ (λn=>K (U.int k n))) ((Lj _).bind λn=>CD.ret _)
 case shl=>exact(Lg b).bind (B:=λb K=>fI _ (λn=>K (U.int k n))) λm=>(Lj _).bind λn=>CD.ret _
 case shr=>exact(Lg b).bind (B:=λb K=>fI _ (λn=>K (U.int k n))) λm=>(Lj _).bind λn=>CD.ret _
 case and=>exact Sx a b (B:=λx y K=>(wg False (fN (Nat.land x y) (λn=>K (U.int k (.ofNat n)))) (An (vU x (intMax k)) (vU y (intMax k))):Prop)) λx y=>CD.ite ((IY _).bind λn=>CD.ret _)
 case or=>exact Sx a b (B:=λx y K=>(wg False (fN (xB x y) (λn=>K (U.int k (.ofNat n)))) (An (vU x (intMax k)) (vU y (intMax k))):Prop)) λx y=>CD.ite ((IY _).bind λn=>CD.ret _)
 case xor=>exact Sx a b (B:=λx y K=>(wg False (fN (Nat.xor x y) (λn=>K (U.int k (.ofNat n)))) (An (vU x (intMax k)) (vU y (intMax k))):Prop)) λx y=>CD.ite ((IY _).bind λn=>CD.ret _)
 case andNot=>exact CD.no λ_ h=>h
 all_goals exact CD.ret _
theorem Avm(op:BinOp)(l c m d:Nat):CD (bS op l c m d):=by
 cases op
 case add=>exact CD.ite (M:=λK=>fN _ (λn=>fN _ (λe=>K (U.str n e)))) ((IY _).bind λn=>(IY _).bind λe=>CD.ret _)
 all_goals first|exact CD.ret _|exact CD.no λ_ h=>h
theorem oY(op:BinOp)(t:TypeId)(x y:U):CD (Y5 E op t x y):=by
 unfold Y5;split
 · unfold oX;split
   · refine(hI _ _).bind λa=>?_;unfold Aav;split
     · exact(R0 _).bind λb=>Aca _ _ _ _
     · exact(hI _ _).bind λb=>Aca _ _ _ _
   · exact Ny x λl c=>Ny y λm d=>Avm _ _ _ _ _
   · exact RU _
 · exact CD.no λ_ h=>h
theorem my(op:BinOp)(t:TypeId)(a b:Operand)(x c:U):CD (Vj E op t a b x c):=by
 unfold Vj;cases S0 E op t a b with
 |false=>exact oY op t x c
 |true=>exact RU _
theorem Agz(op:UnOp)(x:U):CD (jU op x):=by
 unfold jU;split
 · exact(Agg x).bind λb=>CD.ret _
 · exact RU _
theorem bQ(t:TypeId)(x:U)(i:Nat):CD (N3 E t x i):=by
 unfold N3;split
 · split
   · exact(ij x).bind λcs=>CD.ret _
   · exact(ij x).bind λcs=>RU _
 · exact CD.no λ_ h=>h
theorem ZR(t:TypeId)(x:U)(i:Nat):CD (Ls E t x i):=by
 unfold Ls;split
 · exact W8 x λb q=>(IY _).bind λq=>CD.ret _
 · exact CD.no λ_ h=>h
theorem Ajf(i:Nat)(x:U):CD (ext i x):=(Akh x).bind λ_cs=>RU _
theorem lh(t:TypeId)(a:U)(b:H):CD (OE E t a b):=by
 have c:∀(d:P)(o n:Nat),CD (β:=List U) (λK=>b.ES d o n Av K):=λd o n K f=>by
  unfold Hp.ES at f ⊢;cases g:CG (b.at d) with
  |no=>rw[g] at f;exact(CX f).elim
  |row t h z e i=>rw[g] at f;obtain⟨j,f⟩:=Dz (show(wg Av (K (Cp t n o)) (vU (vN o n) h):Prop) from f);refine⟨_,f,λK' k=>?_⟩;show(wg Av (K' (Cp t n o)) (vU (vN o n) h):Prop);rw[j];exact k
  |ext m h=>rw[g] at f;obtain⟨j,f⟩:=Dz (show(wg Av (K (BY m n o)) (vU (vN o n) h):Prop) from f);refine⟨_,f,λK' k=>?_⟩;show(wg Av (K' (BY m n o)) (vU (vN o n) h):Prop);rw[j];exact k
 have p:∀(d:P)(o:Nat),CD (β:=U) (λK=>b.EP d o Av K):=λd o K f=>by
  unfold Hp.EP at f ⊢;cases g:CG (b.at d) with
  |no=>rw[g] at f;exact(CX f).elim
  |row t h z e i=>rw[g] at f;obtain⟨j,f⟩:=Dz (show(wg Av (BB (AD t o) K) (vU (vN o 1) h):Prop) from f);rw[BI] at f;refine⟨_,f,λK' k=>?_⟩;show(wg Av (BB (AD t o) K') (vU (vN o 1) h):Prop);rw[j,BI];exact k
  |ext m h=>rw[g] at f;obtain⟨j,f⟩:=Dz (show(wg Av (BB (m o) K) (vU (vN o 1) h):Prop) from f);rw[BI] at f;refine⟨_,f,λK' k=>?_⟩;show(wg Av (BB (m o) K') (vU (vN o 1) h):Prop);rw[j,BI];exact k
 unfold OE;split
 · split
   · exact W8 a (B:=λd o K=>b.ES d o _ Av (λl=>K (U.agg l))) λd o=>(c d o _).bind λl=>CD.ret (U.agg l)
   · exact W8 a λd o=>p d o
 · exact CD.no λ_ b=>b
def UG(E:Env)(a:CF)(o:Op)(f:FT)(b:H)(c:KV):Prop:=∃v,c v b∧(∀d:KV,d v b→Ck E o a f b d)∧(kindOf E o=0→∀(g:H)(d:KV),d v g→Ck E o a f g d)
variable{call:CF}{f:FT}{h:H}{k:KV}
theorem Db{o:Op}{M:(U→Prop)→Prop}(a:CD M)(e:∀(h:H)(k:KV),Ck E o call f h k=M (λv=>k v h))(b:Ck E o call f h k):UG E call o f h k:=by rw[e] at b;obtain⟨v,c,d⟩:=a _ b;exact⟨v,c,λg i=>by rw[e];exact d _ i,λ_ i g j=>by rw[e];exact d _ j⟩
theorem kc{o:Op}{a:(U→Prop)→Prop}(b:CD a)(c:kindOf E o≠0)(e:∀(k:KV),Ck E o call f h k=a (λv=>k v h))(d:Ck E o call f h k):UG E call o f h k:=by rw[e] at d;obtain⟨v,g,i⟩:=b _ d;exact⟨v,g,λj l=>by rw[e];exact i _ l,λh0=>(c h0).elim⟩
theorem nh{o:Option (U×H)}(a:∀v b,o=some (v,b)→b=h)(c:oK o k):∃v,o=some (v,h)∧k v h:=by obtain⟨v,b,e,d⟩:=iN c;have:=a v b e;subst this;exact⟨v,e,d⟩
theorem HH{o:Op}{A:H→Option (U×H)}(e:∀(h:H)(k:KV),Ck E o call f h k=oK (A h) k)(a:∀h v b,A h=some (v,b)→b=h)(c:kindOf E o=0→∀h b v,A h=some (v,h)→A b=some (v,b))(d:Ck E o call f h k):UG E call o f h k:=by
 rw[e] at d;obtain⟨v,g,i⟩:=nh (a h) d;refine⟨v,i,λj b=>?_,λh0 b j l=>?_⟩
 · rw[e,g,Ad];exact b
 · rw[e,c h0 h b v g,Ad];exact l
end
end Go.Den
namespace Go.Den
open Go.RowKit
section
variable{E:Env}{h:H}
theorem IA{o:Option U}{v:U}{a:H}(e:C3 h o=some (v,a)):a=h:=(Fj e).2
theorem SF{o:Option U}{v:U}{a:H}(b:H)(e:C3 h o=some (v,a)):C3 b o=some (v,b):=by have:=(Fj e).1;rw[this];rfl
theorem Pt{x v:U}{a:H}(e:Ag x h=some (v,a)):a=h∧∀b:H,Ag x b=some (v,b):=by cases x<;>simp only[Ag] at e<;>cases e;exact⟨rfl,λ_=>rfl⟩
theorem NX{n:Nat}{t:Option Tm}{v:U}{a:H}(e:Nc n h t=some (v,a)):a=h∧∀b:H,Nc n b t=some (v,b):=by
 cases t with
 |none=>cases e
 |some t=>cases e;exact⟨rfl,λ_=>rfl⟩
theorem MF{a:Option TI}{b:List (Nat×U)}{v:U}{c:H}(e:AF E a b h=some (v,c)):c=h∧∀d:H,AF E a b d=some (v,d):=by
 cases a with
 |none=>cases e
 |some a=>
  have e:Jy E a.desc a b h=some (v,c):=e;show _∧∀d,Jy E a.desc a b d=_;cases f:a.desc<;>rw[f] at e<;>simp only[Jy] at e ⊢<;>try cases e
  · obtain⟨g,i,j⟩:=Ah e;obtain⟨k,d⟩:=NX j;refine⟨k,λz=>?_⟩;rw[i];exact d z
  · exact NX e
theorem T3{t:TypeId}{b:P}{o n z c:Nat}{v:U}{d:H}(e:Jx E t b o n z c h=some (v,d)):d=h∧∀f:H,Jx E t b o n z c f=some (v,f):=by obtain⟨a,g,i⟩:=Ah e;obtain⟨j,k,l⟩:=Ah i;obtain⟨m,p⟩:=AK l;cases p;refine⟨rfl,λf=>?_⟩;unfold Jx AE;rw[g];show(wz none (λj=>_) (E.ty a):Option (U×H))=_;rw[k];show(wg none _ _:Option (U×H))=_;rw[m]
theorem SZ{t:TypeId}{b:P}{o c:Nat}{v:U}{d:H}(e:L5 E t b o c h=some (v,d)):d=h∧∀f:H,L5 E t b o c f=some (v,f):=by obtain⟨a,g,i⟩:=Ah e;obtain⟨j,k⟩:=AK i;obtain⟨l,m,n⟩:=Ah k;cases n;refine⟨rfl,λf=>?_⟩;unfold L5;rw[g];show(wg none (wz none _ (E.ty a.2)) _:Option (U×H))=_;rw[j,m]
theorem Iy{t:TypeId}{x:U}{a:Option Nat}{v:U}{b:H}(e:Ef E t x a h=some (v,b)):b=h∧∀c:H,Ef E t x a c=some (v,c):=by
 cases a with
 |none=>cases e
 |some a=>
  cases x<;>try cases e
  · exact SZ e
  · exact T3 e
theorem Rj{t:TypeId}{cs:List U}{b:Nat}{v:U}{c:H}(e:L2 E t cs b h=some (v,c)):c=h∧∀d:H,L2 E t cs b d=some (v,d):=by obtain⟨a,f,g⟩:=Ah e;obtain⟨i,j⟩:=AK g;obtain⟨k,l,m⟩:=Ah j;refine⟨IA m,λd=>?_⟩;unfold L2;rw[f];show(wg none (wz none _ (E.ty a.2)) _:Option (U×H))=_;rw[i,l];exact SF d m
theorem MB{t:TypeId}{x:U}{a:Option Nat}{v:U}{b:H}(e:Hl E t x a h=some (v,b)):b=h∧∀c:H,Hl E t x a c=some (v,c):=by
 cases a with
 |none=>cases e
 |some a=>
  cases x<;>try cases e
  · obtain⟨d,f,g⟩:=Ah e;obtain⟨i,j⟩:=AK g;obtain⟨c,k⟩:=AK j;cases k;refine⟨rfl,λz=>?_⟩;rename_i l m;show(wz none (λd=>wg none (wg none (some (.int .u8 (.ofNat (DD m a)),z)) (vU (vN a 1) l)) (isStr d.desc)) (E.ty t):Option (U×H))=_;rw[f];show(wg none (wg none (some (.int .u8 (.ofNat (DD m a)),z)) (vU (vN a 1) l)) (isStr d.desc):Option (U×H))=_;rw[i,c]
  · exact Rj e
theorem On{t:TypeId}{x:U}{lo hi a:Option (Option Nat)}{v:U}{b:H}(e:slice3 E h t x lo hi a=some (v,b)):b=h∧(CZ E EA t=true→∀c:H,slice3 E c t x lo hi a=some (v,c)):=by
 obtain⟨d,f,g⟩:=Ah e;refine⟨IA g,λi c=>?_⟩;have j:FO E h t x lo hi d=FO E c t x lo hi d:=by
  unfold CZ at i;unfold FO;cases k:E.ty t with
  |none=>rfl
  |some l=>rw[k] at i;have i:EA l.desc=true:=i;show Oo E h l.desc x lo hi d=Oo E c l.desc x lo hi d;cases m:l.desc<;>rw[m] at i<;>first|rfl|cases i
 unfold slice3;rw[f];show C3 c (FO E c t x lo hi d)=_;rw[←j];exact SF c g
theorem YC{a b:TypeId}{x v:U}{c:H}(d:CZ E Ik b=false)(e:D4 E h a b x=some (v,c)):c=h:=by
 unfold D4 at e;obtain⟨f,hi,e⟩:=Ah e;have g:Ik f.desc=false:=by unfold CZ at d;rw[hi] at d;exact d
 cases i:f.desc<;>rw[i] at e g<;>simp only[Xp] at e<;>try cases e
 · cases x<;>simp only[Sz] at e<;>cases e;rfl
 · cases x<;>simp only[N4] at e<;>try cases e
   · rfl
   · rfl
   · unfold YT at e;obtain⟨j,_,e⟩:=Ah e;cases k:j.desc<;>rw[k] at e<;>simp only at e<;>try cases e
     obtain⟨_,e⟩:=AK e;cases e;rfl
   · unfold J2 at e;obtain⟨j,_,e⟩:=Ah e;cases k:j.desc<;>rw[k] at e<;>simp only at e<;>try cases e
     obtain⟨_,e⟩:=AK e;obtain⟨cs,_,e⟩:=Ah e;obtain⟨l,_,e⟩:=Ah e;cases e;rfl
 · cases x<;>simp only at e<;>try cases e
   · unfold Aqg at e;obtain⟨j,_,e⟩:=Ah e;cases k:j.desc<;>rw[k] at e<;>simp only at e<;>cases e;rfl
   · unfold GP at e;cases m:CG (h.at ‹P›)<;>rw[m] at e<;>try cases e
     obtain⟨j,_,e⟩:=Ah e;cases k:j.desc<;>rw[k] at e<;>simp only at e<;>try cases e
     obtain⟨n,_,e⟩:=Ah e;obtain⟨_,e⟩:=AK e;cases e;rfl
 · cases x<;>simp only at e<;>try cases e
   · unfold ZF at e;obtain⟨j,_,e⟩:=Ah e;cases k:j.desc<;>rw[k] at e<;>simp only at e<;>cases e;rfl
   · unfold ZF at e;obtain⟨j,_,e⟩:=Ah e;cases k:j.desc<;>rw[k] at e<;>simp only at e<;>try cases e
     unfold IC at e;cases m:CG (h.at ‹P›)<;>rw[m] at e<;>try cases e
     obtain⟨o,_,e⟩:=Ah e;obtain⟨_,e⟩:=AK e;cases e;rfl
 · cases g
theorem RL{t:TypeId}{a b v:U}{c:Bool}{d:H}(e:BO E t a b c h=some (v,d)):d=h:=by
 unfold BO Ju at e;obtain⟨f,_,e⟩:=Ah e;cases g:f.desc<;>rw[g] at e<;>simp only at e<;>try cases e
 obtain⟨p,_,e⟩:=Ah e;unfold CW at e;obtain⟨r,_,e⟩:=Ah e;cases r with
 |none=>obtain⟨i,_,e⟩:=Ah e;obtain⟨z,_,e⟩:=Ah e;cases e;rfl
 |some p=>cases e;rfl
theorem ZD{a:List TypeId}{x v:U}{b:H}(e:Hr E a x h=some (v,b)):b=h:=by
 unfold Hr at e;obtain⟨t,_,e⟩:=Ah e;obtain⟨c,_,e⟩:=Ah e;cases d:c.desc<;>rw[d] at e<;>simp only[ZB] at e<;>try cases e
 · cases x<;>simp only at e<;>cases e;rfl
 · obtain⟨p,_,e⟩:=Ah e;cases e;rfl
 · cases x<;>simp only at e<;>cases e<;>rfl
 · rfl
 · cases x<;>simp only at e<;>try cases e
   · rfl
   · obtain⟨p,_,e⟩:=Ah e;cases e;rfl
theorem M0{a:Builtin}{b:List TypeId}{c:List U}{v:U}{d:H}(f:a=.cap∨a=.unsafeSliceData∨a=.min∨a=.max)(e:AB E a b c h=some (v,d)):d=h:=by
 unfold AB at e;split at e
 · rename_i x;rcases f with rfl|rfl|rfl|rfl<;>simp only[bi1] at e<;>try cases e
   · obtain⟨_,g⟩:=AK (show(wg none (gm x h) (Abz E (Cj b 0)):Option (U×H))=some (v,d) from e);clear e;cases x<;>simp only[gm] at g<;>try cases g
     · rfl
     · rename_i t;cases t<;>simp only at g<;>cases g;rfl
   · cases x<;>simp only[EK] at e<;>try cases e
     · rfl
     · split at e<;>cases e;rfl
 · rename_i x i;rcases f with rfl|rfl|rfl|rfl<;>simp only[bi2] at e<;>try cases e
   · exact IA e
   · exact IA e
 · cases e
variable{call:CF}{f:FT}{k:KV}
theorem Aok{o:Op}(b:kindOf E o=0∨kindOf E o=1)(c:Ck E o call f h k):UG E call o f h k:=by
 cases o<;>try (rcases b with b|b<;>cases b<;>done)
 case move x=>exact Db (M:=λK=>K (eval' E x f)) (CD.ret _) (λ_ _=>rfl) c
 case assign x=>exact Db (M:=λK=>K (eval' E x f)) (CD.ret _) (λ_ _=>rfl) c
 case binOp op t x d q=>exact Db (my op t x d (eval' E x f) (eval' E d f)) (λ_ _=>rfl) c
 case unOp op t x=>exact Db (Agz op (eval' E x f)) (λ_ _=>rfl) c
 case fieldAddr t x g=>exact Db (ZR t (eval' E x f) g) (λ_ _=>rfl) c
 case field t x g=>exact Db (bQ t (eval' E x f) g) (λ_ _=>rfl) c
 case extract x g=>exact Db (Ajf g (eval' E x f)) (λ_ _=>rfl) c
 case makeFunc fn a i=>exact Db (M:=λK=>K (.func fn (D7 E f a.toList) (D7 E f i.toList))) (CD.ret _) (λ_ _=>rfl) c
 case makeInterface t x=>
  refine Db (M:=λK=>match E.ty t with
   |some j=>match isIface j.desc with
    |true=>False
    |false=>K (.iface t (eval' E x f))
   |none=>False) ?_ (λ_ _=>rfl) c
  split
  · split
    · exact CD.no λ_ h=>h
    · exact CD.ret _
  · exact CD.no λ_ h=>h
 case pick m a i=>
  refine Db (M:=λK=>(MJ.rec False (λt=>wg (BB (eval (CP E) i f) K) (BB (eval (CP E) a f) K) t) (I6 (eval (CP E) m f)):Prop)) ?_ (λ_ _=>rfl) c;cases I6 (eval (CP E) m f) with
  |no=>exact CD.no λ_ h=>h
  |is t=>cases t<;>exact CD.of_eq (λK=>(BI _ K).symm) (CD.ret _)
 case nilCheck x=>exact HH (A:=λh=>Ag (eval' E x f) h) (λ_ _=>rfl) (λ_ _ _ e=>(Pt e).1) (λ_ _ p _ e=>(Pt e).2 p) c
 case build t s=>exact HH (A:=λh=>AF E (E.ty t) (Fe (CP E) f s.toList) h) (λ_ _=>rfl) (λ_ _ _ e=>(MF e).1) (λ_ _ p _ e=>(MF e).2 p) c
 case index t x g=>
  have c:IN E t (eval' E x f) (eval' E g f) h k:=c;have u:∀(h:H)(k:KV),Ck E (.index t x g) call f h k=IN E t (eval' E x f) (eval' E g f) h k:=λ_ _=>rfl;cases w:E.ty t with
  |none=>unfold IN at c;rw[w] at c;exact c.elim
  |some j=>
   cases y:isStr j.desc with
   |true=>
    refine Db (M:=λK=>Bv (eval' E x f) (λl m=>Rf (eval' E g f) (λn=>FG l m n (λi=>K (U.int .u8 (.ofNat i)))))) ?_ (λh k=>?_) c
    · exact Ny _ λl m=>(RY _).bind λn=>CD.ite ((IY _).bind λi=>CD.ret _)
    · rw[u];unfold IN;rw[w];simp only[y]
   |false=>refine HH (A:=λh=>Hl E t (eval' E x f) (Bf (eval' E g f)) h) (λh k=>?_) (λ_ _ _ e=>(MB e).1) (λ_ _ p _ e=>(MB e).2 p) c;rw[u];unfold IN;rw[w];simp only[y]
 case indexAddr t x g=>
  have c:Hc E t (eval' E x f) (eval' E g f) h k:=c;have u:∀(h:H)(k:KV),Ck E (.indexAddr t x g) call f h k=Hc E t (eval' E x f) (eval' E g f) h k:=λ_ _=>rfl;cases d:Jb E t with
  |some e=>
   cases s:E.ty e with
   |none=>unfold Hc at c;rw[d] at c;simp only[s] at c
   |some a0=>refine Db (M:=λK=>Rf (eval' E g f) (λn=>A7 a0.size n (eval' E x f) K)) ((RY _).bind λn=>jA _ _ _) (λh k=>?_) c;rw[u];unfold Hc;rw[d];simp only[s]
  |none=>refine HH (A:=λh=>Ef E t (eval' E x f) (Bf (eval' E g f)) h) (λh k=>?_) (λ_ _ _ e=>(Iy e).1) (λ_ _ p _ e=>(Iy e).2 p) c;rw[u];unfold Hc;rw[d]
 case slice t x lo hi s=>
  have c:G0 E t (eval' E x f) (lo.map (λx=>eval' E x f)) (hi.map (λx=>eval' E x f)) (s.map (λx=>eval' E x f)) h k:=c;have u:∀(h:H)(k:KV),Ck E (.slice t x lo hi s) call f h k=G0 E t (eval' E x f) (lo.map (λx=>eval' E x f)) (hi.map (λx=>eval' E x f)) (s.map (λx=>eval' E x f)) h k:=λ_ _=>rfl;cases w:E.ty t with
  |none=>unfold G0 at c;rw[w] at c;exact c.elim
  |some j=>
   cases y:isStr j.desc with
   |true=>
    cases d:s.map (λx=>eval' E x f) with
    |some q=>unfold G0 at c;rw[w] at c;simp only[y,d] at c
    |none=>
     have a0:∀(o:Option U)(a1:Nat),CD (Uz o a1):=λo a1=>by
      cases o with
      |none=>exact CD.ret a1
      |some v=>exact RY v
     refine Db (M:=λK=>Bv (eval' E x f) (λl m=>Uz (hi.map (λx=>eval' E x f)) l (λhi=>Uz (lo.map (λx=>eval' E x f)) 0 (λlo=>Lk l m lo hi (λn a1=>K (U.str n a1)))))) ?_ (λh k=>?_) c
     · exact Ny _ λl m=>(a0 _ _).bind λa=>(a0 _ _).bind λi=>CD.ite ((IY _).bind λn=>(IY _).bind λa1=>CD.ret _)
     · rw[u];unfold G0;rw[w];simp only[y,d]
   |false=>
    have d:∀(h:H)(k:KV),Ck E (.slice t x lo hi s) call f h k=oK (slice3 E h t (eval' E x f) ((lo.map (λx=>eval' E x f)).map Bf) ((hi.map (λx=>eval' E x f)).map Bf) ((s.map (λx=>eval' E x f)).map Bf)) k:=λh k=>by rw[u];unfold G0;rw[w];simp only[y]
    refine HH (A:=λh=>slice3 E h t (eval' E x f) ((lo.map (λx=>eval' E x f)).map Bf) ((hi.map (λx=>eval' E x f)).map Bf) ((s.map (λx=>eval' E x f)).map Bf)) d (λ_ _ _ e=>(On e).1) (λh0 _ p _ e=>(On e).2 ?_ p) c;have h0:(wg 1 0 (CZ E EA t):Nat)=0:=h0;cases s:CZ E EA t with
    |true=>rfl
    |false=>rw[s] at h0;cases h0
 case convert p a1 x=>
  have c:JI E p a1 (eval' E x f) h k:=c;have u:∀(h:H)(k:KV),Ck E (.convert p a1 x) call f h k=JI E p a1 (eval' E x f) h k:=λ_ _=>rfl;cases w:E.ty a1 with
  |none=>unfold JI at c;rw[w] at c;exact c.elim
  |some j=>
   have a0:(∀(h:H)(k:KV),Ck E (.convert p a1 x) call f h k=oK (D4 E h p a1 (eval' E x f)) k)→An (C8 E p) (C8 E a1)=false→UG E call (.convert p a1 x) f h k:=λd a2=>by
    have a3:kindOf E (.convert p a1 x)=(wg 1 2 (CZ E Ik a1):Nat):=by show(wg (wg 1 2 (CZ E Ik a1)) 0 (An (C8 E p) (C8 E a1)):Nat)=_;rw[a2]
    have a4:CZ E Ik a1=false:=by
     cases s:CZ E Ik a1 with
     |false=>rfl
     |true=>rw[a3,s] at b;rcases b with b|b<;>cases b
    refine HH (A:=λh=>D4 E h p a1 (eval' E x f)) d (λ_ _ _ e=>YC a4 e) (λh0=>?_) c;rw[a3,a4] at h0;cases h0
   cases s:j.desc with
   |int a3=>
    cases y:C8 E p with
    |true=>refine Db (M:=λK=>UU (eval' E x f) (λn=>fI (wrap a3 n) (λn=>K (U.int a3 n)))) ((R0 _).bind λn=>(Lj _).bind λn=>CD.ret _) (λh k=>?_) c;rw[u];unfold JI;rw[w];simp only[s,NH,y]
    |false=>refine a0 (λh k=>?_) (by rw[y];rfl);rw[u];unfold JI;rw[w];simp only[s,NH,y]
   |_=>
    refine a0 (λh k=>?_) ?_
    · rw[u];unfold JI;rw[w];simp only[s,NH]
    · rw[show C8 E a1=false from by unfold C8;rw[w];simp only[s,HF]];cases C8 E p<;>rfl
 case load t a=>exact kc (lh t (eval' E a f) h) (λh0=>nomatch (show(1:Nat)=0 from h0)) (λ_=>rfl) c
 case lookup t y g i=>exact HH (A:=λh=>BO E t (eval' E y f) (eval' E g f) i h) (λ_ _=>rfl) (λ_ _ _ e=>RL e) (λh0=>nomatch (show(1:Nat)=0 from h0)) c
 case call m=>
  obtain⟨p,g,a4⟩:=m;cases p with
  |value v=>rcases b with b|b<;>cases b
  |invoke r y=>rcases b with b|b<;>cases b
  |builtin i=>
   have u:∀(h:H)(k:KV),Ck E (.call ⟨.builtin i,g,a4⟩) call f h k=F4 E i a4.toList (D7 E f g.toList) h k:=λ_ _=>rfl;have look:(i=.cap∨i=.unsafeSliceData∨i=.min∨i=.max)→UG E call (.call ⟨.builtin i,g,a4⟩) f h k:=λa2=>by
    refine HH (A:=λh=>AB E i a4.toList (D7 E f g.toList) h) (λh k=>?_) (λ_ _ _ e=>M0 a2 e) (λh0=>?_) c
    · rcases a2 with rfl|rfl|rfl|rfl<;>rfl
    · rcases a2 with rfl|rfl|rfl|rfl<;>cases h0
   cases i<;>first|(rcases b with b|b<;>cases b<;>done)|exact look (.inl rfl)|exact look (.inr (.inl rfl))|exact look (.inr (.inr (.inl rfl)))|exact look (.inr (.inr (.inr rfl)))|skip
   have c:F4 E .len a4.toList (D7 E f g.toList) h k:=c;have p:=c;unfold F4 at p;simp only at p;split at p
   · rename_i x y;have d:∀(h:H)(k:KV),Ck E (.call ⟨.builtin .len,g,a4⟩) call f h k=Un E a4.toList x h k:=λh k=>by rw[u];unfold F4;rw[y]
     unfold Un at p;split at p
     · rename_i t i;split at p
       · rename_i j w;have b:∀(h:H)(k:KV),Ck E (.call ⟨.builtin .len,g,a4⟩) call f h k=Sl E a4.toList j.desc x h k:=λh k=>by rw[d];unfold Un;rw[i];simp only[w]
         have u:∀y r,a4.toList=y::r→kindOf E (.call ⟨.builtin .len,g,a4⟩)=(wg 1 0 (CZ E EA y):Nat):=λy r e=>by
          show(match a4.toList with
           |t::_=>(wg 1 0 (CZ E EA t):Nat)
           |[]=>1)=_
          rw[e]
         unfold Sl at p;split at p
         · rename_i s;refine Db (M:=λK=>Bv x (λl _=>K (U.int .i64 (.ofNat l)))) (Ny _ λl m=>CD.ret _) (λh k=>?_) c;rw[b,s];rfl
         · rename_i s;refine Db (M:=λK=>Bz x (λn=>K (U.int .i64 (.ofNat n)))) ((Acz _).bind λn=>CD.ret _) (λh k=>?_) c;rw[b,s];rfl
         · rename_i d g;refine HH (A:=λh=>Hr E a4.toList x h) (λh k=>?_) (λ_ _ _ e=>ZD e) (λh0=>?_) c
           · rw[b];unfold Sl;split
             · rename_i s;exact absurd s d
             · rename_i m s;exact absurd s (g m)
             · rfl
           · cases c:a4.toList with
             |nil=>rw[c] at i;cases i
             |cons y r=>
              rw[c] at i;have:y=t:=wU.inj (show some y=some t from i);subst this;rw[u y r c] at h0;have b:CZ E EA y=false:=by unfold CZ;rw[w];show EA j.desc=false;cases m:j.desc<;>first|rfl|(exact absurd m d)|(exact absurd m (g _))
              rw[b] at h0;cases h0
       · exact p.elim
     · exact p.elim
   · exact p.elim
end
end Go.Den
namespace Go.Den
open Go.RowKit
open Classical
section
variable(ops:Array Oper)
def Cz(i:Nat):Option Tmp:=(ops[i]?).bind (·.dst)
def FS(v:Nat→U)(f0:FT)(S:Nat→Bool):Nat→FT
 |0=>f0
 |n+1=>if S n=true then BS (FS v f0 S n) (Cz ops n) (v n) else FS v f0 S n
def Cq{b:Type}(v:Nat→b)(i:Nat)(a:b):Nat→b:=λj=>if j=i then a else v j
inductive EW:Nat→Nat→Prop
 |Y8 {i:Nat} {o:Oper} {e:Edge}:ops[i]? =some o→e∈o.after→Region.binds .any e=true→EW i e.on
 |trans {i j k:Nat}:EW i j→EW j k→EW i k
variable{ops}
theorem Fx(f:FT)(d:Option Tmp)(a:U)(t:Nat):BS f d a t=if d=some t then a else f t:=by
 cases d with
 |none=>simp[BS]
 |some d=>
  show Aq f d a t=_;rw[EE];by_cases e:t=d
  · subst e;simp
  · rw[if_neg e,if_neg (λh=>e (wU.inj h).symm)]
theorem IB{v a:Nat→U}{f0:FT}{S b:Nat→Bool}{t:Nat}:∀{n:Nat},(∀j,j<n→Cz ops j=some t→S j=b j∧(S j=true→v j=a j))→FS ops v f0 S n t=FS ops a f0 b n t
 |0,_=>rfl
 |n+1,c=>by
  have d:=IB (f0:=f0) (n:=n) λj f=>c j (Nat.lt_succ_of_lt f);have g:∀(h:Nat→U)(i:Nat→Bool),FS ops h f0 i (n+1) t=if i n=true∧Cz ops n=some t then h n else FS ops h f0 i n t:=λh i=>by
   simp only[FS];by_cases k:i n=true
   · rw[if_pos k,Fx];simp[k]
   · rw[if_neg k];simp[k]
  rw[g,g];by_cases l:Cz ops n=some t
  · obtain⟨m,o⟩:=c n (Nat.lt_succ_self n) l;rw[←m];by_cases p:S n=true
    · simp[p,l,o p]
    · simp[p,d]
  · simp[l,d]
theorem cX{f:FT}{b e:Option Tmp}{a c:U}(d:b=e→b=none):BS (BS f b a) e c=BS (BS f e c) b a:=by
 funext t;simp only[Fx];by_cases g:b=some t
 · by_cases h:e=some t
   · have:=d (g.trans h.symm);rw[this] at g;cases g
   · simp[g,h]
 · simp[g]
theorem Rw{v:Nat→U}{f0:FT}{S:Nat→Bool}{b:Nat}{a:U}(hi:S b=false):∀{n:Nat},b<n→(∀j,b<j→j<n→S j=true→Cz ops j=Cz ops b→Cz ops b=none)→
    FS ops (Cq v b a) f0 (Cq S b true) n=BS (FS ops v f0 S n) (Cz ops b) a
  |0,c,_=>absurd c (Nat.not_lt_zero _)
  |n+1,c,d=>by
    by_cases e:b=n
    · subst e;have f:FS ops (Cq v b a) f0 (Cq S b true) b=FS ops v f0 S b:=by
        funext t;refine IB λj g _=>?_;have:j≠b:=by omega
        simp[Cq,this]
      simp only[FS,f];simp[Cq,hi]
    · have h:b<n:=by omega
      have i:=Rw (v:=v) (f0:=f0) (a:=a) hi h λj k l=>d j k (by omega);have m:n≠b:=λc=>e c.symm;simp only[FS,i];have o:Cq S b true n=S n:=by simp[Cq,m]
      have p:Cq v b a n=v n:=by simp[Cq,m]
      rw[o,p];by_cases q:S n=true
      · rw[if_pos q,if_pos q];exact cX λr=>d n (by omega) (by omega) q r.symm
      · rw[if_neg q,if_neg q]
structure Wf(P:Program)(E:Env)(N G:Nat)(ops:Array Oper):Prop where
 lt:∀i o e,ops[i]? =some o→e∈o.after→Region.binds .any e=true→e.on<i
 apart:∀i j oi oj,ops[i]? =some oi→ops[j]? =some oj→i≠j→EW ops i j∨EW ops j i∨(oi.apart ops oj=true)
 guard:∀i o g w,ops[i]? =some o→o.guard=some (g,w)→EW ops i g∧∃gd,Cz ops g=some gd∧∀j,Cz ops j=some gd→j=g
 ok:∀o,o∈ops→Er P E N G o=true
variable{P:Program}{E:Env}{N G:Nat}{D:List Deferred}
theorem EW.lt(a:Wf P E N G ops){i j:Nat}(b:EW ops i j):j<i:=by
 induction b with
 |Y8 c d f=>exact a.lt _ _ _ c d f
 |trans _ _ g h=>omega
def DC(ops:Array Oper)(S:Nat→Bool):Prop:=∀i o e,S i=true→ops[i]? =some o→e∈o.after→Region.binds .any e=true→S e.on=true
theorem DC.Jz{S:Nat→Bool}(a:DC ops S){b j:Nat}(hi:S b=true)(c:EW ops b j):S j=true:=by
 induction c with
 |Y8 d f g=>exact a _ _ _ hi d f g
 |trans _ _ h i=>exact i (h hi)
def KS(ops:Array Oper)(S:Nat→Bool)(i:Nat):Prop:=∀o e,ops[i]? =some o→e∈o.after→Region.binds .any e=true→S e.on=true
theorem KS.Jz{S:Nat→Bool}{a:Nat}(b:KS ops S a)(c:DC ops S){j:Nat}(d:EW ops a j):S j=true:=by
 have f:∀{a j:Nat},EW ops a j→KS ops S a→S j=true:=by
  intro a j b;induction b with
  |Y8 g h i=>intro r;exact r _ _ g h i
  |trans _ k l _=>intro r;exact c.Jz (l r) k
 exact f d b
theorem DC.insert{S:Nat→Bool}(a:DC ops S){b:Nat}(r:KS ops S b):DC ops (Cq S b true):=by
 intro j o e c d f g;have:S e.on=true:=by
  by_cases h:j=b
  · subst h;exact r o e d f g
  · refine a j o e ?_ d f g;simpa[Cq,h] using c
 simp only[Cq];split
 · rfl
 · exact this
def Apy(ops:Array Oper)(i:Nat):Nat→Bool:=λj=>decide (EW ops i j)
def FA(ops:Array Oper)(v:Nat→U)(a:FT)(b:Nat):FT:=FS ops v a (Apy ops b) ops.size
theorem G7{j t:Nat}(a:Cz ops j=some t):∃o,ops[j]? =some o∧o.dst=some t:=by
 unfold Cz at a;cases b:ops[j]? with
 |none=>rw[b] at a;cases a
 |some o=>rw[b] at a;exact⟨o,rfl,a⟩
theorem GO(a:Wf P E N G ops){v:Nat→U}{f0:FT}{S:Nat→Bool}(b:DC ops S){c:Nat}{o:Oper}(d:ops[c]? =some o)(hi:S c=false)(r:KS ops S c){t:Nat}(f:t∈o.looksAt ops):FS ops v f0 S ops.size t=FA ops v f0 c t:=by
 refine IB λj g h=>⟨?_,λ_=>rfl⟩;obtain⟨i,k,l⟩:=G7 h;show S j=decide (EW ops c j);by_cases m:S j=true
 · rw[m];symm;rw[decide_eq_true_eq];have n:c≠j:=λe=>by rw[e,m] at hi;cases hi
   rcases a.apart c j o i d k n with p|p|p
   · exact p
   · have:=b.Jz m p;rw[hi] at this;cases this
   · exact absurd f ((Oper.apart_spec p).2.2 t l)
 · have:¬EW ops c j:=λp=>m (r.Jz b p);rw[decide_eq_false this];simpa using m
theorem Qq(b:Wf P E N G ops){v:Nat→U}{f0:FT}{S:Nat→Bool}(c:DC ops S){d:Nat}{o:Oper}(f:ops[d]? =some o)(hi:S d=false){a:U}:FS ops (Cq v d a) f0 (Cq S d true) ops.size=BS (FS ops v f0 S ops.size) o.dst a:=by
 have g:d<ops.size:=(Array.getElem?_eq_some_iff.1 f).1;have h:Cz ops d=o.dst:=by unfold Cz;rw[f];rfl
 rw[Rw hi g,h];intro j i k l m;have n:ops[j]? =some ops[j]:=Array.getElem?_eq_getElem k;rcases b.apart d j o ops[j] f n (by omega) with p|p|p
 · have:=p.lt b;omega
 · have:=c.Jz l p;rw[hi] at this;cases this
 · cases q:Cz ops d with
   |none=>rfl
   |some r=>rw[q] at m;obtain⟨s,t,u⟩:=G7 m;rw[n] at t;cases t;exact absurd u ((Oper.apart_spec p).2.1 r (by rw[←h,q]))
theorem HV{v:Nat→U}{a:FT}{S:Nat→Bool}{b c:Nat}(d:Cz ops b=some c)(f:∀j,Cz ops j=some c→j=b)(g:S b=true):FS ops v a S ops.size c=v b:=by
 obtain⟨o,h,_⟩:=G7 d;have i:b<ops.size:=(Array.getElem?_eq_some_iff.1 h).1;have k:∀n,b<n→FS ops v a S n c=v b:=by
  intro n;induction n with
  |zero=>intro l;omega
  |succ n m=>
   intro l;simp only[FS];by_cases e:b=n
   · subst e;rw[if_pos g,Fx,if_pos d]
   · have p:Cz ops n≠some c:=λl=>e (f n l).symm;by_cases q:S n=true
     · rw[if_pos q,Fx,if_neg p];exact m (by omega)
     · rw[if_neg q];exact m (by omega)
 exact k _ i
def IE(v:Nat→U)(o:Oper):Prop:=∀g w,o.guard=some (g,w)→v g=.bool w
def UL(v:Nat→U)(o:Oper):Prop:=∃g w,o.guard=some (g,w)∧(v g=.undef∨v g=.bool (!w))
structure Did(ops:Array Oper)(E:Env)(call:CF)(f0:FT)(v:Nat→U)(h:H)(i:Nat)(o:Oper):Prop where
 sub:∃fi:FT,(∀t∈o.looksAt ops,fi t=.top∨fi t=FA ops v f0 i t)∧kindOf E o.op≤1∧(∀k:KV,k (v i) h→Ck E o.op call fi h k)∧(kindOf E o.op=0→∀(h':H)(k:KV),k (v i) h'→Ck E o.op call fi h' k)
def Fact(ops:Array Oper)(E:Env)(a:CF)(b:FT)(v:Nat→U)(c:H)(d:Nat):Prop:=
 ∃o,ops[d]? =some o∧((IE v o∧Did ops E a b v c d o)∨(UL v o∧v d=.undef))
theorem HW{v a:Nat→U}{b:FT}{c:Nat}(d:∀j,EW ops c j→v j=a j):FA ops v b c=FA ops a b c:=by funext t;refine IB λj _ _=>⟨rfl,λf=>d j (by simpa[Apy] using f)⟩
theorem Fact.congr(a:Wf P E N G ops){b:CF}{c:FT}{v d:Nat→U}{f:H}{g:Nat}(h:∀j,j=g∨EW ops g j→v j=d j)(i:Fact ops E b c v f g):Fact ops E b c d f g:=by
 obtain⟨o,k,i⟩:=i;refine⟨o,k,?_⟩;rcases i with⟨l,⟨m,n,p,q,r⟩⟩|⟨⟨s,u,w,x⟩,y⟩
 · refine .inl ⟨λs u w=>?_,⟨m,λt b=>?_,p,?_,?_⟩⟩
   · rw[←h s (.inr (a.guard g o s u k w).1)];exact l s u w
   · rw[←HW λj c=>h j (.inr c)];exact n t b
   · rw[←h g (.inl rfl)];exact q
   · rw[←h g (.inl rfl)];exact r
 · refine .inr ⟨⟨s,u,w,?_⟩,?_⟩
   · rw[←h s (.inr (a.guard g o s u k w).1)];exact x
   · rw[←h g (.inl rfl)];exact y
theorem Afu{b:Option Nat}(c:Wf P E N G ops)(d:Bt P E){f:CF}(g:C4 P (CP E) G (λp=>p) f){Q:Exit→Act→World→Prop}{f0:FT}{v:Nat→U}{h:H}{i:Nat}(k:Fact ops E f f0 v h i)
 {S:Nat→Bool} (l:DC ops S) (hi:S i=false) (r:KS ops S i) {μ:Mu} {a:Act} {m:World} (fr:FR μ N D (FS ops v f0 S ops.size) a) (n:Bc μ h m) (q:DE μ G) {next:Act→World→Prop}
 (s:∀(u:Mu)(w:Act)(y:World),FR u N D (FS ops v f0 (Cq S i true) ops.size) w→Bc u h y→BF μ h m u h y→next w y):wpOpIn (Fo b) 0 P ops Q i next a m:=by
 obtain⟨o,f,k⟩:=k;have b:=c.ok o (Array.mem_of_getElem? f);simp only[Er,vK] at b;have w:∀a0,FS ops (Cq v i a0) f0 (Cq S i true) ops.size=BS (FS ops v f0 S ops.size) o.dst a0:=λa0=>Qq c l f hi;have a0:Cq v i (v i)=v:=by funext j;simp only[Cq];split<;>simp_all
 have w:=w (v i);rw[a0] at w;have a0:∀a1 y,o.guard=some (a1,y)→∃a2,((ops[a1]?).bind (·.dst))=some a2∧VR μ (v a1) (a.tmps.getD a2 undef)∧a2<a.tmps.size:=λa1 y a3=>by
  obtain⟨a4,a2,a5,a6⟩:=c.guard i o a1 y f a3;refine⟨a2,a5,?_,?_⟩
  · have:=fr.get a2;rw[HV a5 a6 (r.Jz l a4)] at this;exact this
  · obtain⟨a4,a7,a8⟩:=G7 a5;have:=c.ok a4 (Array.mem_of_getElem? a7);simp only[Er,vK] at this;rw[a8] at this;exact vZ (by simpa[Hm] using this.1) fr.size
 unfold wpOpIn;rw[f];simp only;rcases k with⟨a4,⟨a7,a8,a9,b0,_⟩⟩|⟨⟨a1,y,a3,a6⟩,b1⟩
 · have k:Region.wanted o (yielded ops a.tmps)=true:=by
    unfold Region.wanted;cases a3:o.guard with
    |none=>rfl
    |some p=>
     obtain⟨a1,y⟩:=p;obtain⟨a2,a5,a9,b2⟩:=a0 a1 y a3;rw[a4 a1 y a3] at a9;have a9:a.tmps.getD a2 undef=.bool y:=a9;show(yielded ops a.tmps a1==some y)=true;rw[F8,a5];show(yb (a.tmps[a2]?)==some y)=true;have:a.tmps[a2]? =some (.bool y):=by rw[Array.getElem?_eq_getElem b2] at*;rw[Array.getD_eq_getD_getElem?,Array.getElem?_eq_getElem b2] at a9;exact congrArg some a9
     rw[this];simp[yb]
   rw[if_pos k];have a4:=OS (b0 (λb3 b4=>b3=v i∧b4=h) ⟨rfl,rfl⟩);have i:∀x∈o.op.operands.toList,CS G x=true:=by have b0:=b.2;simp only[Lz,vK] at b0;exact λx b3=>(wm.1 b0.1) x b3
   refine TT (C:=CP E) (good:=λp=>p) (λh=>h) d g b.2 (λx b3=>?_) n q a4 ?_
   · refine Ot (C:=CP E) q (i x b3) λt d=>?_;subst d;have g:t∈o.looksAt ops:=xG _ (xH.2 ⟨.tmp t,b3,rfl⟩);show VR μ (a7 t) (a.tmps.getD t undef);rcases a8 t g with h|h
     · rw[h];trivial
     · rw[h,←GO c l f hi r g];exact fr.get t
   · intro u av b4 i y q d a9 c;obtain⟨f,g⟩:=c;subst f;subst g;refine s u _ y ?_ q d;rw[w];exact(fr.mono d.le).put b.1 a9
 · have k:Region.wanted o (yielded ops a.tmps)=false:=by
    unfold Region.wanted;rw[a3];obtain⟨a2,a5,a9,b2⟩:=a0 a1 y a3;show(yielded ops a.tmps a1==some y)=false;rw[F8,a5];show(yb (a.tmps[a2]?)==some y)=false;have h:a.tmps[a2]? =some (a.tmps.getD a2 undef):=by rw[Array.getD_eq_getD_getElem?,Array.getElem?_eq_getElem b2];rfl
    rcases a6 with a6|a6
    · rw[a6] at a9;obtain⟨l,i,c⟩:=a9;rw[h,i];rfl
    · rw[a6] at a9;have a9:a.tmps.getD a2 undef=.bool (!y):=a9;rw[h,a9];cases y<;>rfl
   rw[if_neg (by rw[k];simp)];refine⟨λ_ _=>trivial,?_⟩;refine s μ _ m ?_ n (.refl _ _ _);rw[w,b1];exact fr.put b.1 (VR.undef μ)
end
end Go.Den
namespace Go.Den
open Go.RowKit
open Classical
section
variable{P:Program}{E:Env}{N G:Nat}{D:List Deferred}{ops:Array Oper}
def aN(P:Program)(E:Env)(o:Op)(f:FT)(b:Go.Den.P→U)(c:Ob FT):Prop:=
 ∀{μ:Mu}{a:Act},(∀x∈o.operands.toList,VR μ (eval' E x f) (a.eval x))→∃d:Sem Value,(∀q:Oper,q.op=o→execOp a.eval q=(do pure (.value (←d))))∧Gp P μ d b c
theorem jL(b:Bt P E){o:Op}(c:KJ o=true){d:CF}{f:FT}{g:H}{h:KV}(i:Ck E o d f g h):∃j k,h (j g.next) (g.new k)∧aN P E o f j k:=by
 cases o<;>try cases c
 case alloc e=>
  have i:(match E.ty e with
   |some m=>g.Bu (rowOf e m.zero) (λs g=>h (.ptr s 0) g)
   |none=>False):=i
  cases hi:E.ty e with
  |none=>rw[hi] at i;exact i.elim
  |some m=>rw[hi] at i;have i:g.Bu (rowOf e m.zero) (λs g=>h (.ptr s 0) g):=i;rw[Hf] at i;refine⟨λp=>.ptr p 0,rowOf e m.zero,i,λ{μ a} _=>⟨Instr.alloc e true (.tuple #[]),λq u=>?_,Kz b hi μ⟩⟩;obtain⟨w,op,y,pos,d,a0⟩:=q;cases u;rfl
 case makeMap t r=>
  cases r with
  |some=>cases c
  |none=>have i:g.Bu (.map [] 0) (λs g=>h (.map s) g):=i;rw[Hf] at i;refine⟨λp=>.map p,.map [] 0,i,λ{μ a} _=>⟨Instr.makeMap t none,λq u=>?_,Lo μ t⟩⟩;obtain⟨w,op,y,pos,d,a0⟩:=q;cases u;rfl
 case makeSlice t x c=>obtain⟨v,a1,a2,i⟩:=Cd (C:=CP E) (good:=λp=>p) (λg=>g) (show B2 (CP E) h (AE E t (λe a3=>Eg (Bf (eval (CP E) x f)) (Bf (eval (CP E) c f)) g e a3)) from i);obtain⟨j,k,e,_,a4⟩:=Js b a2;cases e;refine⟨j,k,i,λ{μ a} a5=>⟨Instr.makeSlice t (a.eval x) (a.eval c),λq u=>?_,a4 (a5 x (by simp[Op.operands])) (a5 c (by simp[Op.operands]))⟩⟩;obtain⟨w,op,y,pos,d,a0⟩:=q;cases u;rfl
 case buildSlice t n c=>
  obtain⟨v,a1,a2,i⟩:=Cd (C:=CP E) (good:=λp=>p) (λg=>g) (show B2 (CP E) h (AE E t (λe a3=>Ap n (Fe (CP E) f c.toList) g e a3)) from i);obtain⟨j,k,e,_,a4⟩:=IL b a2;cases e;refine⟨j,k,i,λ{μ a} a5=>⟨Instr.buildSlice t n (c.map λ(m,x)=>(m,a.eval x)),λq u=>?_,a4 ?_⟩⟩
  · obtain⟨w,op,y,pos,d,a0⟩:=q;cases u;rfl
  · have:=ER.map (μ:=μ) (a:=a) (C:=CP E) (f:=f) (l:=c.toList) λx b=>a5 x (by simpa[Op.operands] using b);have j:ER μ (c.toList.map λp=>(p.1,eval (CP E) p.2 f)) (c.map λ(m,x)=>(m,a.eval x)).toList:=by simpa using this
    exact Eq.mpr (congrArg (λl=>ER μ l _) (IV (C:=CP E) (f:=f) c.toList)) j
 case box e x=>
  have i:=Zh (show gU E e (eval' E x f) g h from i);rw[BI] at i;cases k:vU 1 (len (eval' E x f).cells) with
  |false=>rw[k] at i;exact i.elim
  |true=>rw[k] at i;have i:g.Bu (rowOf e (eval' E x f).cells) (λs g=>h (.ptr s 0) g):=i;rw[Hf] at i;refine⟨λp=>.ptr p 0,rowOf e (eval' E x f).cells,i,λ{μ a} a5=>⟨Instr.box e (a.eval x),λq u=>?_,cz e (a5 x (by simp[Op.operands])) k⟩⟩;obtain⟨w,op,y,pos,d,a0⟩:=q;cases u;rfl
structure XY(P:Program)(ops:Array Oper)(E:Env)(f0:FT)(v:Nat→U)(h:H)(i:Nat)(p:Go.Den.P):Prop where
 ex:∃(o:Oper)(fi:FT)(u:Go.Den.P→U)(ob:Ob FT),ops[i]? =some o∧KJ o.op=true∧o.guard=none∧(∀t∈o.looksAt ops,fi t=.top∨fi t=FA ops v f0 i t)∧aN P E o.op fi u ob∧v i=u p∧h.at p=ob
theorem XY.congr{a:FT}{v b:Nat→U}{c d:H}{f:Nat}{p:Go.Den.P}(g:∀j,j=f∨EW ops f j→v j=b j)(h:d.at p=c.at p)(i:XY P ops E a v c f p):XY P ops E a b d f p:=by obtain⟨o,k,l,m,n,h0,q,r,s,u,w⟩:=i.ex;refine⟨o,k,l,m,n,h0,q,λt x=>?_,s,by rw[←g f (.inl rfl)];exact u,h.trans w⟩;rw[←HW λj y=>g j (.inr y)];exact r t x
theorem Bc.ghost{μ:Mu}{a:H}{c:World}(d:Bc μ a c)(f:Ob FT):Bc μ (a.new f) c:=by
 have g:=d.none (b:=a.next) (vE _);have h:(a.new f).next.nat=a.next.nat+1:=P.Ce _;have i:∀b l,μ b=some l→b≠a.next:=λb l j e=>by rw[e,g] at j;cases j
 refine⟨λb l j=>?_,λb j=>?_,λb l j k=>?_,λb m l n j o k p q=>?_⟩
 · have:=d.fresh b l j;omega
 · rw[CO,if_neg (λe=>by rw[e] at j;omega)];exact d.dead b (by omega)
 · rw[CO,if_neg (i b l k)] at j ⊢;exact d.ob b l j k
 · rw[CO,if_neg (i b l k)] at j;rw[CO,if_neg (i m n p)] at o;exact d.inj b m l n j o k p q
theorem BF.Aec{a μ:Mu}{h0 c:H}{d f:World}(x:BF a h0 d μ c f)(g:Bc μ c f)(h:Ob FT):BF a h0 d μ (c.new h) f:=by
 have i:=g.none (b:=c.next) (vE _);have j:(c.new h).next.nat=c.next.nat+1:=P.Ce _;refine⟨x.le,x.size,x.keep,?_,⟨?_,λb k e=>?_⟩,x.os,x.tape,x.output⟩
 · rintro m n ⟨b,l,k,o,e⟩;rw[CO,if_neg (λe=>by rw[e,i] at o;cases o)] at k;exact x.own m n ⟨b,l,k,o,e⟩
 · have:=x.ghost.1;omega
 · obtain⟨p,q⟩:=x.ghost.2 b k e;refine⟨p,?_⟩;rw[CO,if_neg (λe=>by have:=x.ghost.1;rw[e] at k;omega)];exact q
theorem Bc.fill{μ:Mu}{a:H}{w:World}(b:Bc μ a w){p:Go.Den.P}(c:p.nat<a.next.nat)(d:μ p=Option.none){f:Obj}{sz:Nat}(g:∀h,Mu.le μ h→Ke h (w.alloc f) ⟨w.heap.size,0,sz⟩ (a.at p)):
 Mu.le μ (μ.set p ⟨w.heap.size,0,sz⟩)∧Bc (μ.set p ⟨w.heap.size,0,sz⟩) a (w.alloc f):=by
 have i:=Mu.LU (l:=⟨w.heap.size,0,sz⟩) d;have j:∀k,k<w.heap.size→(w.alloc f).heap[k]? =w.heap[k]? :=λk m=>Below.heap_alloc w f k m;have n:∀o l,a.at o≠.dead→μ o=some l→l.blk<w.heap.size:=λo l q s=>(b.ob o l q s).lt q;refine⟨i,λo l q=>?_,b.dead,λo l q s=>?_,λo t l u q v s x y=>?_⟩
 · by_cases e:o=p
   · rw[e];exact c
   · rw[Mu.Bs _ _ e] at q;exact b.fresh o l q
 · by_cases e:o=p
   · subst e;rw[Mu.BD] at s;cases s;exact g _ i
   · rw[Mu.Bs _ _ e] at s;have r:=b.ob o l q s;exact(r.mono i).world (j _ (r.lt q))
 · have h:a.at o≠.dead:=λd=>by rw[d] at q;cases q
   by_cases e:o=p
   · by_cases f:t=p
     · rw[e,f]
     · rw[e,Mu.BD] at s;cases s;rw[Mu.Bs _ _ f] at x;have:=n t u v x;simp at y;omega
   · rw[Mu.Bs _ _ e] at s;by_cases f:t=p
     · rw[f,Mu.BD] at x;cases x;have:=n o l h s;simp at y;omega
     · rw[Mu.Bs _ _ f] at x;exact b.inj o t l u q v s x y
theorem BF.fill{a μ:Mu}{h0 b:H}{c w:World}(x:BF a h0 c μ b w){p:Go.Den.P}(d:h0.next.nat≤p.nat)(f:μ p=none)(g:Obj)(sz:Nat):BF a h0 c (μ.set p ⟨w.heap.size,0,sz⟩) b (w.alloc g):=by
 have h:=Mu.LU (l:=⟨w.heap.size,0,sz⟩) f;refine⟨x.le.trans h,?_,λi j k=>?_,?_,⟨x.ghost.1,λm n e=>?_⟩,x.os,x.tape,x.output⟩
 · rw[World.size_alloc];have:=x.size;omega
 · rw[Below.heap_alloc w g i (vZ j x.size)];exact x.keep i j k
 · rintro i j ⟨m,l,n,o,e⟩;by_cases eb:m=p
   · rw[eb,Mu.BD] at o;cases o;have:=x.size;simp at e;omega
   · rw[Mu.Bs _ _ eb] at o;exact x.own i j ⟨m,l,n,o,e⟩
 · obtain⟨q,r⟩:=x.ghost.2 m n e;exact⟨by rw[Mu.Bs _ _ (λe=>by rw[e] at n;omega)];exact q,r⟩
end
end Go.Den
namespace Go.Den
open Go.RowKit
open Classical
def Dy(A:List Nat):Nat→Bool:=λi=>decide (i∈A)
theorem B9{A:List Nat}{i:Nat}:Dy A i=true↔i∈A:=by simp[Dy]
theorem Io{A:List Nat}{i:Nat}:Dy A i=false↔i∉A:=by simp[Dy]
theorem F0(A:List Nat)(i:Nat):Dy (A++[i])=Cq (Dy A) i true:=by funext j;simp only[Dy,Cq,xI,xJ];by_cases h:j=i<;>simp[h]
def Sub(f F:FT):Prop:=∀t,f t=.top∨f t=F t
def EH(a:List Nat)(v b:Nat→U):Prop:=∀c∈a,b c=v c
theorem EH.refl(A:List Nat)(v:Nat→U):EH A v v:=λ_ _=>rfl
theorem EH.trans{a b:List Nat}{v c d:Nat→U}(h:EH a v c)(f:EH b c d)(g:∀i∈a,i∈b):EH a v d:=λi hi=>(f i (g i hi)).trans (h i hi)
theorem Sub.BS{f F:FT}(h:Sub f F)(d:Option Tmp)(a:U):Sub (BS f d a) (BS F d a):=λt=>by
 rw[Fx,Fx];by_cases e:d=some t
 · rw[if_pos e,if_pos e];exact .inr rfl
 · rw[if_neg e,if_neg e];exact h t
def Dr.idx(BG:Dr):List Nat:=Dr.rec [] (λa _ _ _ b=>a::b) (λ_ _ _ _ c _ _ d f=>d++c::f) BG
theorem iZ(a:Nat)(o:Oper)(b:List (Nat×Oper))(r:Dr):(Dr.op a o b r).idx=a::r.idx:=rfl
theorem He(j:Nat)(a:Tmp)(b:Bool)(c:Dr)(d:Nat)(pk:Oper)(r:Dr):(Dr.Mm j a b c d pk r).idx=c.idx++d::r.idx:=rfl
theorem kI(l:List (Option Tmp)):∀(f:FT)(t:Nat),Km l f t=.top∨(Km l f t=f t∧some t∉l):=by
 induction l with
 |nil=>intro f t;exact .inr ⟨rfl,by simp⟩
 |cons a l b=>
  intro f t;show Km l (Den.BS f a .top) t=.top∨(Km l (Den.BS f a .top) t=f t∧_);rcases b (Den.BS f a .top) t with c|⟨c,d⟩
  · exact .inl c
  · rw[c,Fx];by_cases e:a=some t
    · left;rw[if_pos e]
    · right;rw[if_neg e];exact⟨rfl,by simp only[vw,not_or];exact⟨λc=>e c.symm,d⟩⟩
section
variable{ops:Array Oper}{P:Program}{E:Env}{N G:Nat}{D:List Deferred}{call:CF}{f0:FT}{Kf:FT→H→Prop}
structure NA(ops:Array Oper)(E:Env)(o:Oper)(rl:List Oper)(A:List Nat):Prop where
 fresh:KJ o.op=true
 guard:o.guard=none
 kinds:∀o∈rl,kindOf E o.op=0∨kindOf E o.op=1
 look:∀l ol,l∈A→ops[l]? =some ol→kindOf E ol.op=1→ol∈rl∧(∃d,ol.dst=some d∧∀j,Cz ops j=some d→j=l)∧∀t∈ol.looksAt ops,∀j,Cz ops j=some t→EW ops l j
structure Qr(ops:Array Oper)(E:Env)(i:Nat)(rl:List Oper)(A B:List Nat):Prop where
 kinds:∀o∈rl,kindOf E o.op=0∨kindOf E o.op=1
 later:∀j∈B,EW ops j i
 look:∀l ol,l∈A→ops[l]? =some ol→kindOf E ol.op=1→EW ops i l∨ol∈rl
 rl:∀l ol,l∈A→ops[l]? =some ol→kindOf E ol.op=1→EW ops i l∨((∃d,ol.dst=some d∧∀j,Cz ops j=some d→j=l)∧∀t∈ol.looksAt ops,∀j,Cz ops j=some t→EW ops l j)
mutual
inductive Good (ops:Array Oper) (E:Env) (call:CF) (f0:FT) (Kf:FT→H→Prop):List Nat→(Nat→U)→List Nat→List Nat→(FT→H→Prop)→Prop
 |mk {A0:List Nat} {v0:Nat→U} {A rem:List Nat} {C:FT→H→Prop} (h:∀v f hh,EH A0 v0 v→Sub f (FS ops v f0 (Dy A) ops.size)→C f hh→Out ops E call f0 Kf A rem v hh):Good ops E call f0 Kf A0 v0 A rem C
inductive Out (ops:Array Oper) (E:Env) (call:CF) (f0:FT) (Kf:FT→H→Prop):List Nat→List Nat→(Nat→U)→H→Prop
 |fin {A rem:List Nat} {v v':Nat→U} {f':FT} {hh:H} (he:EH A v v') (hf:∀i∈rem,Fact ops E call f0 v' hh i) (hs:Sub f' (FS ops v' f0 (Dy (A++rem)) ops.size)) (hk:Kf f' hh):Out ops E call f0 Kf A rem v hh
 |stop {A A1 B:List Nat} {e:Nat} {v v':Nat→U} {f':FT} {hh:H} {o:Oper} {rl:List Oper} {C:FT→H→Prop} (he:EH A v v') (hf:∀i∈A1,Fact ops E call f0 v' hh i) (hs:Sub f' (FS ops v' f0 (Dy (A++A1)) ops.size))
  (ho:ops[e]? =some o) (hw:IE v' o) (hn:e∉A++A1) (hst:Qr ops E e rl (A++A1) B) (hx:Ck E o.op call f' hh (fun u h'=>PV E o.type u (fun u=>HM E call rl (Den.BS f' o.dst u) h' (C (Den.BS f' o.dst u) h'))))
  (hg:Good ops E call f0 Kf (A++A1) v' (A++A1++[e]) B C):Out ops E call f0 Kf A (A1++e::B) v hh
 |ghost {A A1 B:List Nat} {e:Nat} {v v':Nat→U} {f':FT} {hh:H} {o:Oper} {rl:List Oper} {C:FT→H→Prop} (he:EH A v v') (hf:∀i∈A1,Fact ops E call f0 v' hh i) (hs:Sub f' (FS ops v' f0 (Dy (A++A1)) ops.size))
  (ho:ops[e]? =some o) (hn:e∉A++A1) (hst:NA ops E o rl (A++A1)) (hx:Ck E o.op call f' hh (fun u h'=>PV E o.type u (fun u=>HM E call rl (Den.BS f' o.dst u) h' (C (Den.BS f' o.dst u) h'))))
  (hg:Good ops E call f0 Kf (A++A1) v' (A++A1++[e]) B C):Out ops E call f0 Kf A (A1++e::B) v hh
end
theorem Good.base{A0 A1 a b:List Nat}{c d:Nat→U}{C:FT→H→Prop}(g:Good ops E call f0 Kf A0 c a b C)(h:∀i∈A0,i∈A1)(j:EH A0 c d):Good ops E call f0 Kf A1 d a b C:=by
 cases g with
 |mk g=>exact .mk λv f k l m n=>g v f k (j.trans l h) m n
theorem Out.pre(a:Wf P E N G ops){A L b:List Nat}{v c:Nat→U}{d:H}(f:Out ops E call f0 Kf (A++L) b c d)(g:∀h∈L,Fact ops E call f0 c d h)(i:EH A v c)(k:∀h∈L,∀j,j=h∨EW ops h j→j∈A++L):Out ops E call f0 Kf A (L++b) v d:=by
 have sub:∀h∈A,h∈A++L:=λh hi=>xG _ hi;cases f with
 |fin l m n p=>
  refine .fin (i.trans l sub) (λh hi=>?_) (by rw[←vp];exact n) p;rcases xI.1 hi with hi|hi
  · exact(g h hi).congr a λj q=>(l j (k h hi j q)).symm
  · exact m h hi
 |stop l m n r s t u w x=>
  rename_i A1 y e b c o d C;rw[←vp];refine .stop (i.trans l sub) (λh hi=>?_) (by rw[←vp];exact n) r s (by rw[←vp];exact t) (by rw[←vp];exact u) w (by rw[←vp];exact x);rcases xI.1 hi with hi|hi
  · exact(g h hi).congr a λj q=>(l j (k h hi j q)).symm
  · exact m h hi
 |ghost l m n r t u w x=>
  rename_i A1 y e b c o d C;rw[←vp];refine .ghost (i.trans l sub) (λh hi=>?_) (by rw[←vp];exact n) r (by rw[←vp];exact t) (by rw[←vp];exact u) w (by rw[←vp];exact x);rcases xI.1 hi with hi|hi
  · exact(g h hi).congr a λj q=>(l j (k h hi j q)).symm
  · exact m h hi
def VL(ops:Array Oper)(E:Env)(G:Nat):Dr→Option (Nat×Bool)→List Nat→List Nat→List Nat→Prop
 |.nil,_,_,_,_=>True
 |.op a o b r,c,d,f,g=>ops[a]? =some o∧o.guard=c∧a∉f∧KS ops (Dy f) a∧(kindOf E o.op≤1→KD b=[])∧(kindOf E o.op=2→Qr ops E a (KD b) f (r.idx++g)∨NA ops E o (KD b) f)∧VL ops E G r c (a::d) (f++[a]) g
 |.Mm j h i k l pk r,c,d,f,g=>Cz ops j=some h∧(∀m,Cz ops m=some h→m=j)∧j∈f∧j∈d∧ops[l]? =some pk∧pk.guard=c∧Iu G h i pk.op=true∧l∉f++k.idx∧KS ops (Dy (f++k.idx)) l
  ∧VL ops E G k (some (j,i)) [] f (l::r.idx++g)∧VL ops E G r c (l::d) (f++k.idx++[l]) g
theorem P7:∀{BG:Dr}{a:Option (Nat×Bool)}{b c d:List Nat},VL ops E G BG a b c d→DC ops (Dy c)→DC ops (Dy (c++BG.idx))
 |.nil,_,_,c,_,_,f=>by show DC ops (Dy (c++[]));rw[vi];exact f
 |.op g o h r,_,_,c,_,i,f=>by obtain⟨k,_,_,l,_,_,m⟩:=i;have:=P7 m (by rw[F0];exact f.insert l);rw[vp] at this;exact this
 |.Mm j n p q s pk r,_,_,c,_,i,f=>by obtain⟨_,_,_,_,_,_,_,_,l,t,m⟩:=i;have u:=P7 t f;have:=P7 m (by rw[F0];exact u.insert l);rw[vp,vp] at this;rw[He];exact this
theorem Mh:∀{BG:Dr}{a:Option (Nat×Bool)}{b c d:List Nat},VL ops E G BG a b c d→∀f∈BG.idx,∀g,Cz ops f=some g→some g∈BG.IF
 |.nil,_,_,_,_,_,f,hi,_,_=>by cases hi
 |.op f o h r,_,_,c,_,i,x,k,g,m=>by
  obtain⟨n,_,_,p,_,_,q⟩:=i;show some g∈o.dst::r.IF;rcases vw.1 (show x∈f::r.idx from k) with rfl|k
  · unfold Cz at m;rw[n] at m;rw[show o.dst=some g from m];simp
  · exact xK _ (Mh q x k g m)
 |.Mm j s t u v pk r,_,_,c,_,i,x,k,g,m=>by
  obtain⟨_,_,_,_,n,_,_,_,p,w,q⟩:=i;show some g∈Eh u.IF (pk.dst::r.IF);have y:∀(l a:List (Option Tmp)),Eh l a=l++a:=by intro l a;induction l with|nil=>rfl|cons x l b=>show x::Eh l a=_;rw[b];rfl
  rw[y,xI];rcases xI.1 (show x∈u.idx++v::r.idx from k) with k|k
  · exact .inl (Mh w x k g m)
  · right;rcases vw.1 k with rfl|k
    · unfold Cz at m;rw[n] at m;rw[show pk.dst=some g from m];simp
    · exact xK _ (Mh q x k g m)
theorem Ig:∀{BG:Dr}{a:Option (Nat×Bool)}{b A c:List Nat},VL ops E G BG a b A c→∀d∈BG.idx,d∉A∧∃o,ops[d]? =some o∧(o.guard=a∨∃f g,o.guard=some (f,g)∧(f∈b∨f∈BG.idx))
 |.nil,_,_,_,_,_,d,hi=>by cases hi
 |.op d o h r,_,_,A,_,i,x,k=>by
  obtain⟨l,m,n,p,_,_,q⟩:=i;rcases vw.1 (show x∈d::r.idx from k) with rfl|k
  · exact⟨n,o,l,.inl m⟩
  · obtain⟨s,t,u,v⟩:=Ig q x k;refine⟨λi=>s (xG _ i),t,u,v.imp id λ⟨f,g,e,w⟩=>⟨f,g,e,?_⟩⟩;rcases w with w|w
    · rcases vw.1 w with rfl|w
      · exact .inr (by rw[iZ];simp)
      · exact .inl w
    · exact .inr (by rw[iZ];simp[w])
 |.Mm j y a c h pk r,_,b,A,_,i,x,k=>by
  obtain⟨_,_,d,b,l,m,_,n,p,y,q⟩:=i;rcases xI.1 (show x∈c.idx++h::r.idx from k) with k|k
  · obtain⟨s,t,u,v⟩:=Ig y x k;refine⟨s,t,u,.inr ?_⟩;rcases v with v|⟨f,g,e,w⟩
    · exact⟨j,a,v,.inl b⟩
    · refine⟨f,g,e,?_⟩;rcases w with w|w
      · cases w
      · exact .inr (by rw[He];simp[w])
  · rcases vw.1 k with rfl|k
    · exact⟨λi=>n (xG _ i),pk,l,.inl m⟩
    · obtain⟨s,t,u,v⟩:=Ig q x k;refine⟨λi=>s (by simp[i]),t,u,v.imp id λ⟨f,g,e,w⟩=>⟨f,g,e,?_⟩⟩;rcases w with w|w
      · rcases vw.1 w with rfl|w
        · exact .inr (by rw[He];simp)
        · exact .inl w
      · exact .inr (by rw[He];simp[w])
theorem Ach(E:Env)(o:Op):kindOf E o=0∨kindOf E o=1∨kindOf E o=2:=by
 have a:∀b:Bool,(wg 1 0 b:Nat)=0∨(wg 1 0 b:Nat)=1∨(wg 1 0 b:Nat)=2:=λb=>by cases b<;>simp
 cases o<;>try exact .inl rfl
 all_goals try exact .inr (.inl rfl)
 all_goals try exact .inr (.inr rfl)
 · rename_i c d x;show(wg (wg 1 2 (CZ E Ik d)) 0 (An (C8 E c) (C8 E d)):Nat)=0∨_;show _∨(wg (wg 1 2 (CZ E Ik d)) 0 (An (C8 E c) (C8 E d)):Nat)=1∨(wg (wg 1 2 (CZ E Ik d)) 0 (An (C8 E c) (C8 E d)):Nat)=2;cases An (C8 E c) (C8 E d)<;>cases CZ E Ik d<;>simp
 · exact a _
 · rename_i b;obtain⟨f,g,h⟩:=b;cases f with
   |value v=>exact .inr (.inr rfl)
   |invoke r i=>exact .inr (.inr rfl)
   |builtin j=>
    cases j<;>first|exact .inr (.inl rfl)|exact .inr (.inr rfl)|skip
    show(match h.toList with
     |t::_=>(wg 1 0 (CZ E EA t):Nat)
     |[]=>1)=0∨(match h.toList with
     |t::_=>(wg 1 0 (CZ E EA t):Nat)
     |[]=>1)=1∨(match h.toList with
     |t::_=>(wg 1 0 (CZ E EA t):Nat)
     |[]=>1)=2
    cases h.toList with
    |nil=>exact .inr (.inl rfl)
    |cons t r=>exact a _
theorem H8{b:List Nat}{v:Nat→U}{c:Nat}{a:U}(d:c∉b):EH b v (Cq v c a):=λj f=>by have:j≠c:=λe=>d (e▸f);simp[Cq,this]
theorem TG{a:Option (Nat×Bool)}{o:Oper}(b:o.guard=a){v:Nat→U}(c:∀j d,a=some (j,d)→v j=.bool d):IE v o:=λj d e=>c j d (b▸e)
theorem Sub.snoc(b:Wf P E N G ops){c:List Nat}(d:DC ops (Dy c)){v:Nat→U}{f:FT}{g:Nat}{o:Oper}(h:ops[g]? =some o)(hi:g∉c)(i:Sub f (FS ops v f0 (Dy c) ops.size))(a:U):Sub (Den.BS f o.dst a) (FS ops (Cq v g a) f0 (Dy (c++[g])) ops.size):=by rw[F0,Qq b d h (Io.2 hi)];exact i.BS _ _
theorem Sub.view(a:Wf P E N G ops){b:List Nat}(c:DC ops (Dy b)){v:Nat→U}{f:FT}{d:Nat}{o:Oper}(g:ops[d]? =some o)(hi:d∉b)(r:KS ops (Dy b) d)(h:Sub f (FS ops v f0 (Dy b) ops.size)):∀t∈o.looksAt ops,f t=.top∨f t=FA ops v f0 d t:=λt i=>by
 rcases h t with h|h
 · exact .inl h
 · right;rw[h];exact GO a c g (Io.2 hi) r i
theorem YA{a:List Nat}(b:DC ops (Dy a)){c:Nat}(r:KS ops (Dy a) c):∀j,j=c∨EW ops c j→j∈a++[c]:=λj d=>by
 rcases d with rfl|d
 · simp
 · exact xG _ (B9.1 (r.Jz b d))
theorem NM(w:Wf P E N G ops):∀(BG:Dr){b9:Option (Nat×Bool)}{d6 A a2 A0:List Nat}{a9:Nat→U}{K:FT→H→Prop},VL ops E G BG b9 d6 A a2→DC ops (Dy A)→(∀b∈A0,b∈A)→(∀j k,b9=some (j,k)→j∈A0∧a9 j=.bool k)→
    Good ops E call f0 Kf A0 a9 (A++BG.idx) a2 K→Good ops E call f0 Kf A0 a9 A (BG.idx++a2) (λf a=>E3 E call BG f a K)
  |.nil,b9,d6,A,a2,A0,a9,K,_,_,_,_,p=>by have p:Good ops E call f0 Kf A0 a9 (A++[]) a2 K:=p;rw[vi] at p;exact p
  |.op b o j7 r,b9,d6,A,a2,A0,a9,K,e5,a5,b4,c6,p=>by
    obtain⟨b5,e1,m,u,j2,d1,e6⟩:=e5;have d2:DC ops (Dy (A++[b])):=by rw[F0];exact a5.insert u
    have e4:Good ops E call f0 Kf A0 a9 (A++[b]++r.idx) a2 K:=by rw[vp];exact p
    have a7:=NM w r e6 d2 (λx a3=>xG _ (b4 x a3)) c6 e4;refine .mk λv f s c2 b7 i=>?_;have c3:IE v o:=TG e1 λj k e=>by rw[c2 j (c6 j k e).1];exact(c6 j k e).2
    have i:Ck E o.op call f s (λa4 h=>PV E o.type a4 (λa4=>HM E call (KD j7) (Den.BS f o.dst a4) h (E3 E call r (Den.BS f o.dst a4) h K))):=i;by_cases f6:kindOf E o.op=2
    · rcases d1 f6 with d1|d1
      · refine Out.stop (A1:=[]) (C:=λf a=>E3 E call r f a K) (.refl _ _) (λ_ a=>nomatch a) (by rw[vi];exact b7) b5 c3 (by rw[vi];exact m) (by rw[vi];exact d1) i ?_;rw[vi];exact a7.base b4 c2
      · refine Out.ghost (A1:=[]) (C:=λf a=>E3 E call r f a K) (.refl _ _) (λ_ a=>nomatch a) (by rw[vi];exact b7) b5 (by rw[vi];exact m) (by rw[vi];exact d1) i ?_;rw[vi];exact a7.base b4 c2
    · have f5:kindOf E o.op=0∨kindOf E o.op=1:=by
        rcases Ach E o.op with a|a|a
        · exact .inl a
        · exact .inr a
        · exact absurd a f6
      have f7:kindOf E o.op≤1:=by rcases f5 with a|a<;>omega
      rw[j2 f7] at i;obtain⟨a4,a8,h4,h5⟩:=Aok f5 i;have a8:=Kv a8;have a8:E3 E call r (Den.BS f o.dst a4) s K:=a8;have b8:=b7.snoc w a5 b5 m a4;have h7:Fact ops E call f0 (Cq v b a4) s b:=by
        refine⟨o,b5,.inl ⟨λc5 c4 e=>?_,⟨f,?_,f7,?_,?_⟩⟩⟩
        · have h8:=B9.1 (u.Jz a5 (w.guard b o c5 c4 b5 e).1);rw[H8 m c5 h8];exact c3 c5 c4 e
        · intro t j4;rw[←HW (v:=v) λj i1=>(H8 m j (B9.1 (u.Jz a5 i1))).symm];exact b7.view w a5 b5 m u t j4
        · simp only[Cq,if_true];exact h4
        · simp only[Cq,if_true];exact h5
      cases a7 with
      |mk a7=>
        refine Out.pre w (L:=[b]) (a7 _ _ _ (λx a3=>(H8 m x (b4 x a3)).trans (c2 x a3)) b8 a8) (λx a3=>?_) (H8 m) (λx a3=>?_)
        · rw[xJ.1 a3];exact h7
        · rw[xJ.1 a3];exact YA a5 u
  |.Mm j l k c d pk r,b9,d6,A,a2,A0,a9,K,e5,a5,b4,c6,p=>by
    obtain⟨e0,a8,c1,k0,c7,e1,i8,m,u,c9,e6⟩:=e5;have a6:=P7 c9 a5;have d2:DC ops (Dy (A++c.idx++[d])):=by rw[F0];exact a6.insert u
    have e4:Good ops E call f0 Kf A0 a9 (A++c.idx++[d]++r.idx) a2 K:=by rw[vp,vp];rw[He] at p;exact p
    have a7:=NM w r e6 d2 (λx a3=>by simp[b4 x a3]) c6 e4;obtain⟨x,a1,j9,d3,a3,k1,h3⟩:=PC i8;refine .mk λv f s c2 b7 i=>?_;obtain⟨t,f2,i⟩:=Ec (show Be (f l) (λt=>qw E k c.IF pk t (E3 E call c) (E3 E call r) f s K) from i);have d5:v j=.bool t:=by
      rcases b7 l with a|a
      · rw[f2] at a;cases a
      · rw[HV e0 a8 (B9.2 c1),f2] at a;exact a.symm
    have i:AM (λg4=>gate k t (E3 E call c f s (λf a=>Be (eval' E (Cw k x a1) f) (λv=>g4 v a))) (Be (eval' E (Cw k a1 x) f) (λv=>g4 v s)))
        (λv a=>E3 E call r (Den.BS (Km c.IF f) pk.dst (.bool v)) a K):=by
      unfold qw at i;rw[d3] at i;exact i
    have i3:kindOf E pk.op=0:=by rw[d3];rfl
    have g5:∀(z:Nat→U)(n:FT)(a:H)(q:Bool),n l=.bool t→(∀g∈pk.looksAt ops,n g=.top∨n g=FA ops z f0 d g)→eval' E (Cw t x a1) n=.bool q→z d=.bool q→IE z pk→Fact ops E call f0 z a d:=λz n a q b2 c0 b3 e9 g8=>by
      have e8:∀(h:H)(a0:KV),a0 (.bool q) h→Ck E pk.op call n h a0:=λh a0 p=>by
        rw[d3];show(MJ.rec False (λt=>wg (BB (eval (CP E) a1 n) (λv=>a0 v h)) (BB (eval (CP E) x n) (λv=>a0 v h)) t) (I6 (n l)):Prop);rw[b2];show(wg (BB (eval (CP E) a1 n) (λv=>a0 v h)) (BB (eval (CP E) x n) (λv=>a0 v h)) t:Prop);cases t with
        |true=>show BB (eval (CP E) x n) (λv=>a0 v h);rw[BI,show eval (CP E) x n=.bool q from b3];exact p
        |false=>show BB (eval (CP E) a1 n) (λv=>a0 v h);rw[BI,show eval (CP E) a1 n=.bool q from b3];exact p
      exact⟨pk,c7,.inl ⟨g8,⟨n,c0,by rw[i3];omega,λa0 p=>e8 _ a0 (by rw[←e9];exact p),λ_ h a0 p=>e8 _ a0 (by rw[←e9];exact p)⟩⟩⟩
    have g6:∀z:Nat→U,EH A v z→IE z pk:=λz y=>TG e1 λc8 c4 e=>by have:=c6 c8 c4 e;rw[y c8 (b4 c8 this.1),c2 c8 this.1];exact this.2
    -- the frame d7 the choice
    have d7:∀(z:Nat→U),EH A v z→Sub (Km c.IF f) (FS ops z f0 (Dy (A++c.idx)) ops.size):=λz y g=>by
      rcases kI c.IF f g with a|⟨a,i7⟩
      · exact .inl a
      · rw[a];rcases b7 g with h|h
        · exact .inl h
        · right;rw[h];refine IB λq _ b6=>⟨?_,λj0=>(y q (B9.1 j0)).symm⟩;have j1:q∉c.idx:=λi5=>i7 (Mh c9 q i5 g b6);simp only[Dy,xI,j1,or_false]
    have e7:∀(z:Nat→U)(a:H)(q:Bool),EH A v z→z d=.bool q→E3 E call r (Den.BS (Km c.IF f) pk.dst (.bool q)) a K→Out ops E call f0 Kf (A++c.idx++[d]) (r.idx++a2) z a:=λz a q y e2 d0=>by
      cases a7 with
      |mk a7=>
        refine a7 z _ a (λb hi=>(y b (b4 b hi)).trans (c2 b hi)) ?_ d0;have:=(d7 z y).snoc w a6 c7 m (.bool q);have j3:Cq z d (.bool q)=z:=by funext b;simp only[Cq];split<;>simp_all
        rw[j3] at this;exact this
    by_cases c3:t=k
    · subst c3;have i:E3 E call c f s (λd8 h=>Be (eval' E (Cw t x a1) d8) (λv=>E3 E call r (Den.BS (Km c.IF f) pk.dst (.bool v)) h K)):=by cases t<;>exact i
      have i2:Good ops E call f0 Kf A v (A++c.idx) (d::r.idx++a2) (λd8 h=>Be (eval' E (Cw t x a1) d8) (λv=>E3 E call r (Den.BS (Km c.IF f) pk.dst (.bool v)) h K)):=by
        refine .mk λb0 b1 b2 g1 g0 h2=>?_;obtain⟨q,b6,d0⟩:=Ec h2;have d4:EH (A++c.idx) b0 (Cq b0 d (.bool q)):=H8 m;have f1:EH A v (Cq b0 d (.bool q)):=g1.trans d4 λb hi=>xG _ hi;have e2:Cq b0 d (U.bool q) d=.bool q:=by simp[Cq]
        refine Out.pre w (L:=[d]) (e7 _ b2 q f1 e2 d0) (λb hi=>?_) d4 (λb hi=>?_)
        · rw[xJ.1 hi];have j5:∀g∈pk.looksAt ops,b1 g=.top∨b1 g=FA ops (Cq b0 d (.bool q)) f0 d g:=λg b8=>by rw[←HW (v:=b0) λb hi=>(d4 b (B9.1 (u.Jz a6 hi))).symm];exact g0.view w a6 c7 m u g b8
          have f3:FS ops b0 f0 (Dy (A++c.idx)) ops.size l=.bool t:=by rw[HV e0 a8 (B9.2 (xG _ c1)),g1 j c1,d5]
          have i4:l∈pk.looksAt ops:=by unfold Oper.looksAt;rw[d3];simp[Op.operands]
          have g9:FA ops (Cq b0 d (.bool q)) f0 d l=.bool t:=by rw[←HW (v:=b0) λb hi=>(d4 b (B9.1 (u.Jz a6 hi))).symm,←GO w a6 c7 (Io.2 m) u i4];exact f3
          refine g5 _ (Aq b1 l (.bool t)) b2 q ?_ ?_ ?_ e2 (g6 _ f1)
          · rw[EE,if_pos rfl]
          · intro g b8;rw[EE];by_cases e:g=l
            · rw[if_pos e];right;rw[e,g9]
            · rw[if_neg e];exact j5 g b8
          · rcases g0 l with a|a
            · refine Eq.trans ?_ b6;cases d9:Cw t x a1 with
              |tmp g=>
                rw[d9] at b6;have f8:b1 g=.bool q:=b6;have i6:g≠l:=λe=>by rw[e,a] at f8;cases f8
                show Aq b1 l (.bool t) g=b1 g;rw[EE,if_neg i6]
              |const j8=>rfl
              |global b9=>rfl
              |func b9=>rfl
            · rw[f3] at a;have:Aq b1 l (.bool t)=b1:=by
                funext a4;rw[EE];by_cases e:a4=l
                · rw[if_pos e,e,a]
                · rw[if_neg e]
              rw[this];exact b6
        · rw[xJ.1 hi];exact YA a6 u
      have:=NM w c c9 a5 (λb hi=>hi) (λc8 c4 e=>by cases e;exact⟨c1,d5⟩) i2;cases this with
      |mk this=>have:=this v f s (.refl _ _) b7 i;rw[He,vp];exact this
    · have i:Be (eval' E (Cw k a1 x) f) (λv=>E3 E call r (Den.BS (Km c.IF f) pk.dst (.bool v)) s K):=by cases t<;>cases k<;>first|exact i|exact absurd rfl c3
      obtain⟨q,b6,d0⟩:=Ec i
      -- nothing of the body is done
      let z:Nat→U:=λb=>if b=d then .bool q else if b∈c.idx then .undef else v b
      have i0:d∉c.idx:=λa=>m (xL _ a);have h9:d∉A:=λa=>m (xG _ a);have y:EH A v z:=λb hi=>by have b2:b≠d:=λe=>h9 (e▸hi);have c0:b∉c.idx:=λa=>(Ig c9 b a).1 hi;simp[z,b2,c0]
      have g2:∀b∈c.idx,z b=.undef:=λb hi=>by have b2:b≠d:=λe=>i0 (e▸hi);simp[z,b2,hi]
      have g3:z d=.bool q:=by simp[z]
      have j6:z j=.bool (!k):=by rw[y j c1,d5];cases t<;>cases k<;>first|rfl|exact absurd rfl c3
      have h6:∀b∈c.idx,Fact ops E call f0 z s b:=λb hi=>by
        obtain⟨_,o,b5,c0⟩:=Ig c9 b hi;refine⟨o,b5,.inr ⟨?_,g2 b hi⟩⟩;rcases c0 with c0|⟨c5,c4,e,b3⟩
        · exact⟨j,k,c0,.inr j6⟩
        · refine⟨c5,c4,e,.inl ?_⟩;rcases b3 with b3|b3
          · cases b3
          · exact g2 c5 b3
      have d9:Cw t x a1=Cw k a1 x:=by cases t<;>cases k<;>first|rfl|exact absurd rfl c3
      have i9:Fact ops E call f0 z s d:=by
        refine g5 z (Aq (Km c.IF f) l (.bool t)) s q ?_ ?_ ?_ g3 (g6 z y)
        · rw[EE,if_pos rfl]
        · intro g b8;rw[EE];by_cases e:g=l
          · rw[if_pos e];right;have:FA ops z f0 d l=.bool t:=by rw[←GO w a6 c7 (Io.2 m) u (e▸b8),HV e0 a8 (B9.2 (xG _ c1)),y j c1,d5]
            rw[e,this]
          · rw[if_neg e];rcases d7 z y g with a|a
            · exact .inl a
            · right;rw[a];exact GO w a6 c7 (Io.2 m) u b8
        · rw[d9,h3] at*;exact b6
      have h0:=e7 z s q y g3 d0;rw[He,vp];have h1:Out ops E call f0 Kf (A++(c.idx++[d])) (r.idx++a2) z s:=by rw[←vp];exact h0
      have f9:=Out.pre w (A:=A) (L:=c.idx++[d]) h1 (λb hi=>?_) y (λb hi=>?_)
      · rw[vp] at f9;exact f9
      · rcases xI.1 hi with hi|hi
        · exact h6 b hi
        · rw[xJ.1 hi];exact i9
      · intro c8 e3;have f4:b∈A++(c.idx++[d]):=xL _ hi;rcases e3 with rfl|e3
        · exact f4
        · have g7:DC ops (Dy (A++(c.idx++[d]))):=by rw[←vp];exact d2
          exact B9.1 (g7.Jz (B9.2 f4) e3)
end
end Go.Den
namespace Go.Den
open Go.RowKit
open Classical
section
variable{ops:Array Oper}{P:Program}{E:Env}{N G:Nat}{D:List Deferred}{call:CF}{f0:FT}{Kf:FT→H→Prop}
inductive YO (ops:Array Oper) (E:Env) (call:CF) (f0:FT) (Kf:FT→H→Prop) (A:List Nat) (v:Nat→U) (hh:H):List Nat→Prop
 |fin {f':FT} (hs:Sub f' (FS ops v f0 (Dy A) ops.size)) (hk:Kf f' hh):YO ops E call f0 Kf A v hh []
 |stop {B:List Nat} {e:Nat} {f':FT} {o:Oper} {rl:List Oper} {C:FT→H→Prop} (hs:Sub f' (FS ops v f0 (Dy A) ops.size))
  (ho:ops[e]? =some o) (hw:IE v o) (hn:e∉A) (hst:Qr ops E e rl A B) (hx:Ck E o.op call f' hh (fun u h'=>PV E o.type u (fun u=>HM E call rl (Den.BS f' o.dst u) h' (C (Den.BS f' o.dst u) h'))))
  (hg:Good ops E call f0 Kf A v (A++[e]) B C):YO ops E call f0 Kf A v hh (e::B)
inductive Wu (ops:Array Oper) (E:Env) (call:CF) (f0:FT) (Kf:FT→H→Prop) (A:List Nat) (v:Nat→U) (hh:H):List Nat→Prop
 |tl {rem:List Nat} (h:YO ops E call f0 Kf A v hh rem):Wu ops E call f0 Kf A v hh rem
 |ghost {B:List Nat} {e:Nat} {f':FT} {o:Oper} {rl:List Oper} {C:FT→H→Prop} (hs:Sub f' (FS ops v f0 (Dy A) ops.size))
  (ho:ops[e]? =some o) (hn:e∉A) (hst:NA ops E o rl A) (hx:Ck E o.op call f' hh (fun u h'=>PV E o.type u (fun u=>HM E call rl (Den.BS f' o.dst u) h' (C (Den.BS f' o.dst u) h'))))
  (hg:Good ops E call f0 Kf A v (A++[e]) B C):Wu ops E call f0 Kf A v hh (e::B)
theorem Out.tail{a b:List Nat}{v:Nat→U}{c:H}(d:Out ops E call f0 Kf a b v c):∃f A1 g,b=A1++g∧EH a v f∧(∀h∈A1,Fact ops E call f0 f c h)∧Wu ops E call f0 Kf (a++A1) f c g:=by
 cases d with
 |fin i j k l=>exact⟨_,_,[],(vi _).symm,i,j,.tl (.fin k l)⟩
 |stop i j k m n o p q r=>exact⟨_,_,_,rfl,i,j,.tl (.stop k m n o p q r)⟩
 |ghost i j k m o p q r=>exact⟨_,_,_,rfl,i,j,.ghost k m o p q r⟩
def Ph(P:Program)(ops:Array Oper)(E:Env)(call:CF)(f0:FT)(A:List Nat)(S:Nat→Bool)(gs:Nat→Option Go.Den.P)(v:Nat→U)(h:H):Prop:=
 ∀i∈A,S i=false→(gs i=none∧Fact ops E call f0 v h i)∨∃p,gs i=some p∧XY P ops E f0 v h i p
def Y4(A:List Nat)(S:Nat→Bool)(h0 h:H)(μ:Mu)(gs:Nat→Option Go.Den.P):Prop:=
 (∀i p,gs i=some p→i∈A∧h0.next.nat≤p.nat∧p.nat<h.next.nat∧(S i=false→μ p=none))∧∀i j p,gs i=some p→gs j=some p→i=j
structure Inv(P:Program)(ops:Array Oper)(E:Env)(N G:Nat)(D:List Deferred)(call:CF)(f0:FT)(Kf:FT→H→Prop)(Df:Mu)(h0:H)(w0:World)(pi:List Nat)(S:Nat→Bool)(a:Act)(w:World):Prop where
 ex:∃(A:List Nat)(v:Nat→U)(h:H)(μ:Mu)(rem:List Nat)(gs:Nat→Option Go.Den.P),DC ops S∧(∀i,S i=true→i∈A)∧FR μ N D (FS ops v f0 S ops.size) a∧Bc μ h w∧BF Df h0 w0 μ h w∧DE μ G∧Ph P ops E call f0 A S gs v h∧Y4 A S h0 h μ gs∧A++rem=pi∧YO ops E call f0 Kf A v h rem
theorem Aah{v a:Nat→U}{b:List Nat}{S:Nat→Bool}(c:EH b v a)(d:∀f,S f=true→f∈b):FS ops v f0 S ops.size=FS ops a f0 S ops.size:=by funext t;exact IB λj _ _=>⟨rfl,λg=>(c j (d j g)).symm⟩
theorem U0{a b:Bool}(h:No a b=true):a=b:=by cases a<;>cases b<;>first|rfl|cases h
theorem jR{a b:Int}(h:AN a b=true):a=b:=by cases a<;>cases b<;>first|(rw[Bh (show vS _ _=true from h)])|cases h
theorem Jl{r:U→U→Bool}(a:∀x b,r x b=true→x=b):∀{c d:List U},allEq r c d=true→c=d
 |[],[],_=>rfl
 |[],_::_,f=>by cases f
 |_::_,[],f=>by cases f
 |x::c,b::d,f=>by obtain⟨g,h⟩:=Ao (show An (r x b) (allEq r c d)=true from f);rw[a x b g,Jl a h]
theorem Aeb{x y:Fn}(h:Aed x y=true):x=y:=by cases x<;>cases y<;>simp only[Aed] at h<;>first|(rw[Bh h])|cases h
theorem Adb:∀(n:Nat)(x a:U),E6 n x a=true→x=a:=by
 intro n;induction n with
 |zero=>intro x a b;cases b
 |succ n c=>
  intro x a b;have b:bZ (E6 n) x a=true:=b;cases x<;>cases a<;>simp only[bZ] at b<;>try (cases b;done)
  · rw[U0 b]
  · obtain⟨d,f⟩:=Ao b;rw[ZW d,jR f]
  · obtain⟨d,f⟩:=Ao b;rw[Bh d,Bh f]
  · rfl
  · obtain⟨d,f⟩:=Ao b;rw[P.beq_eq d,Bh f]
  · rfl
  · obtain⟨d,f⟩:=Ao b;obtain⟨g,h⟩:=Ao d;obtain⟨i,j⟩:=Ao f;obtain⟨k,l⟩:=Ao i;rw[P.beq_eq g,Bh h,Bh k,Bh l,U0 j]
  · rfl
  · rw[P.beq_eq b]
  · obtain⟨d,f⟩:=Ao b;obtain⟨f,g⟩:=Ao f;rw[Aeb d,Jl c f,Jl c g]
  · rfl
  · obtain⟨d,f⟩:=Ao b;rw[Bh d,c _ _ f]
  · rfl
  · rw[Jl c b]
  · rw[Jl c b]
theorem Kx:∀{a:List Oper}{f:FT}{b:H}{c:Prop},(∀o∈a,kindOf E o.op=0∨kindOf E o.op=1)→HM E call a f b c→c∧∀o∈a,(∀d:KV,d (wz .undef f o.dst:U) b→Ck E o.op call f b d)∧(kindOf E o.op=0→∀(g:H)(d:KV),d (wz .undef f o.dst:U) g→Ck E o.op call f g d)∧(wz .undef f o.dst:U)≠.top
 |[],_,_,_,_,h=>⟨h,λ_ b=>nomatch b⟩
 |o::a,f,b,c,i,h=>by
  have h:Ck E o.op call f b (λv _=>PV E o.type v (λv=>BE v (wz .undef f o.dst) (HM E call a f b c))):=h;obtain⟨j,k,l,m⟩:=Aok (i o (by simp)) h;have k:=Kv k;obtain⟨n,k⟩:=Dz (show(wg Av (HM E call a f b c) (E6 4 j (wz .undef f o.dst)):Prop) from k);have e:=Adb 4 _ _ n;obtain⟨p,q⟩:=Kx (λo r=>i o (by simp[r])) k;refine⟨p,λx s=>?_⟩;rcases vw.1 s with rfl|s
  · rw[←e];exact⟨l,m,λt=>by rw[←e,t] at n;cases n⟩
  · exact q x s
theorem Tu{a:List Nat}(b:DC ops (Dy a)){c:Nat}{o:Oper}{d:FT}{v:Nat→U}{f:U}{g h:H}(i:Sub d (FS ops v f0 (Dy a) ops.size))(k:ops[c]? =some o)(m:c∉a){n:List Oper}
 (p:∀q∈n,(∀r:KV,r (wz .undef (Den.BS d o.dst f) q.dst:U) h→Ck E q.op call (Den.BS d o.dst f) h r)∧(kindOf E q.op=0→∀(s:H)(r:KV),r (wz .undef (Den.BS d o.dst f) q.dst:U) s→Ck E q.op call (Den.BS d o.dst f) s r)∧(wz .undef (Den.BS d o.dst f) q.dst:U)≠.top)
 {l:Nat} {u:Oper} (w:l∈a) (x:ops[l]? =some u) (y:(IE v u∧Did ops E call f0 v g l u)∨(UL v u∧v l=.undef))
 (q:kindOf E u.op=1→u∈n∧(∃a0,u.dst=some a0∧∀j,Cz ops j=some a0→j=l)∧∀t∈u.looksAt ops,∀j,Cz ops j=some t→EW ops l j):Fact ops E call f0 v h l:=by
 have n:l≠c:=λe=>m (e▸w);refine⟨u,x,?_⟩;rcases y with⟨a1,⟨a2,a3,a4,a5,a6⟩⟩|y
 · by_cases a5:kindOf E u.op=0
   · exact .inl ⟨a1,⟨a2,a3,a4,a6 a5 h,a6⟩⟩
   · have a2:kindOf E u.op=1:=by omega
     obtain⟨a3,⟨a0,a4,a5⟩,a6⟩:=q a2;obtain⟨q,a2,r3⟩:=p u a3;rw[a4] at q a2 r3;have q:∀r:KV,r (Den.BS d o.dst f a0) h→Ck E u.op call (Den.BS d o.dst f) h r:=q;have a2:kindOf E u.op=0→∀(s:H)(r:KV),r (Den.BS d o.dst f a0) s→Ck E u.op call (Den.BS d o.dst f) s r:=a2;have r3:Den.BS d o.dst f a0≠.top:=r3;have p:Cz ops l=some a0:=by unfold Cz;rw[x];exact a4
     have h:o.dst≠some a0:=λe=>n (a5 c (by unfold Cz;rw[k];exact e)).symm;have r:(Den.BS d o.dst f) a0=.top∨(Den.BS d o.dst f) a0=v l:=by
      rw[Fx,if_neg h];rcases i a0 with g|g
      · exact .inl g
      · right;rw[g];exact HV p a5 (B9.2 w)
     have s:(Den.BS d o.dst f) a0=v l:=by
      rcases r with g|g
      · exact absurd g r3
      · exact g
     rw[s] at q a2;refine .inl ⟨a1,⟨Den.BS d o.dst f,λt u=>?_,by omega,q,a2⟩⟩;have x:o.dst≠some t:=λe=>by have:=(a6 t u c (by unfold Cz;rw[k];exact e));have:=B9.1 (b.Jz (B9.2 w) this);exact m this
     rw[Fx,if_neg x];rcases i t with g|g
     · exact .inl g
     · right;rw[g];refine IB λj n h=>⟨?_,λ_=>rfl⟩;have p:=a6 t u j h;show Dy a j=decide (EW ops l j);rw[decide_eq_true p,B9];exact B9.1 (b.Jz (B9.2 w) p)
 · exact .inr y
theorem NI{listed:Array Bool}{i:Nat}(hi:i<listed.size):(λj=>(listed.setIfInBounds i true).getD j false)=Cq (λj=>listed.getD j false) i true:=by
 funext j;simp only[Cq,Array.getD_eq_getD_getElem?,Array.getElem?_setIfInBounds];by_cases e:j=i
 · subst e;simp[hi]
 · rw[if_neg e,if_neg (λh=>e h.symm)]
theorem eu{S:Nat→Bool}{a:Nat}(hi:S a=false):∀n,a<n→(xM n).countP (λj=>!Cq S a true j)+1=(xM n).countP (λj=>!S j):=by
 intro n;induction n with
 |zero=>intro b;omega
 |succ n c=>
  intro b;rw[List.range_succ,xN,xN];by_cases e:a=n
  · subst e;have:(xM a).countP (λj=>!Cq S a true j)=(xM a).countP (λj=>!S j):=by
     refine List.countP_congr λj d=>?_;have:j≠a:=by have:=xO.1 d;omega
     simp[Cq,this]
    rw[this];simp[Cq,hi]
  · have:=c (by omega);have f:n≠a:=λb=>e b.symm;have g:xP (λj=>!Cq S a true j) [n]=xP (λj=>!S j) [n]:=by simp[Cq,f]
    rw[g];omega
section
variable(wf:Wf P E N G ops)(ok:Bt P E)(Dv:C4 P (CP E) G (fun p=>p) call){Q:Exit→Act→World→Prop}{Df:Mu}{h0:H}{w0:World}
 {pi:List Nat} (hpi:∀A i B,pi=A++i::B→KS ops (Dy A) i) (hall:∀i,i<ops.size→i∈pi)
 (hQ:∀μ f h a w,FR μ N D f a→Bc μ h w→BF Df h0 w0 μ h w→DE μ G→Kf f h→Q .normal a w)
include hpi in
theorem gG:∀(a b:List Nat),pi=a++b→DC ops (Dy a):=by
 intro a;induction h:a.length generalizing a with
 |zero=>intro b _;rw[List.length_eq_zero_iff.1 h];intro c o e hi;simp[Dy] at hi
 |succ n d=>
  intro b f;rcases List.eq_nil_or_concat a with rfl|⟨A',c,rfl⟩
  · cases h
  · rw[List.concat_eq_append] at f h ⊢;have g:pi=A'++c::b:=by rw[f];simp
    rw[F0];exact(d A' (by simpa using h) (c::b) g).insert (hpi A' c b g)
omit hall Dv hQ in
include wf ok hpi in
theorem settle:∀(n:Nat){c q:List Nat}{v:Nat→U}{a:H}{μ:Mu}{a1:World}{S:Nat→Bool}{gs:Nat→Option Go.Den.P},q.length≤n→c++q=pi→(∀a8,S a8=true→a8∈c)→Ph P ops E call f0 c S gs v a→Y4 c S h0 a μ gs→Bc μ a a1→BF Df h0 w0 μ a a1→Wu ops E call f0 Kf c v a q→
 ∃A' a4 k a9 a6,A'++a9=pi∧(∀a8∈c,a8∈A')∧EH c v a4∧Ph P ops E call f0 A' S a6 a4 k∧Y4 A' S h0 k μ a6∧Bc μ k a1∧BF Df h0 w0 μ k a1∧YO ops E call f0 Kf A' a4 k a9:=by
 intro n;induction n with
 |zero=>
  intro c q v a μ a1 S gs i all sub a5 g a0 x tl;cases tl with
  |tl tl=>exact⟨c,v,a,q,gs,all,λ_ a=>a,.refl _ _,a5,g,a0,x,tl⟩
  |ghost=>simp at i
 |succ n f6=>
  intro c q v a μ a1 S gs i all sub a5 g a0 x tl;cases tl with
  |tl tl=>exact⟨c,v,a,q,gs,all,λ_ a=>a,.refl _ _,a5,g,a0,x,tl⟩
  |ghost b5 a7 a2 a3 f5 b3=>
   rename_i c5 e d6 o g5 g0;have r:=gG hpi c _ all.symm;have b4:KS ops (Dy c) e:=hpi c e c5 all.symm;have f4:=b5.view wf r a7 a2 b4;obtain⟨b0,y,f,e2⟩:=jL ok a3.fresh f5;have f:=Kv f;obtain⟨d9,e8⟩:=Kx a3.kinds f;have b9:EH c v (Cq v e (b0 a.next)):=H8 a2;have f1:=b5.snoc wf r a7 a2 (b0 a.next);have g2:DC ops (Dy (c++[e])):=by rw[F0];exact r.insert b4
   cases b3 with
   |mk b3=>
    obtain⟨b1,A1,a9,b6,b8,e0,f9⟩:=(b3 _ _ _ b9 f1 d9).tail;have b2:EH c v b1:=b9.trans b8 λj b=>xG _ b;have f3:b1 e=b0 a.next:=by rw[b8 e (by simp)];simp[Cq]
    have b7:∀l∈c,∀j,j=l∨EW ops l j→v j=b1 j:=λl d j b=>by
     have e7:j∈c:=by
      rcases b with rfl|b
      · exact d
      · exact B9.1 (r.Jz (B9.2 d) b)
     exact(b2 j e7).symm
    have g4:(a.new y).next.nat=a.next.nat+1:=Go.Den.P.Ce _;have s:∀j,j≠e→Cq gs e (some a.next) j=gs j:=λj b=>by simp[Cq,b]
    have g3:S e=false:=by
     cases e6:S e with
     |false=>rfl
     |true=>exact absurd (sub e e6) a2
    have d7:Ph P ops E call f0 (c++[e]++A1) S (Cq gs e (some a.next)) b1 (a.new y):=by
     intro l d e9;by_cases i:l=e
     · subst i;refine .inr ⟨a.next,by simp[Cq],o,d6,b0,y,a7,a3.fresh,a3.guard,λt f2=>?_,e2,f3,by rw[CO,if_pos rfl]⟩;rw[←HW (v:=v) λj b=>(b2 j (B9.1 (b4.Jz r b))).symm];exact f4 t f2
     · rw[s l i];by_cases m:l∈c
       · rcases a5 l m e9 with⟨e3,f7,c0,e1⟩|⟨p,c1,e4⟩
         · exact .inl ⟨e3,Fact.congr wf (b7 l m) (Tu r b5 a7 a2 e8 m c0 e1 (a3.look l f7 m c0))⟩
         · refine .inr ⟨p,c1,e4.congr (b7 l m) ?_⟩;have:=(g.1 l p c1).2.2.1;rw[CO,if_neg (λe=>by rw[e] at this;omega)]
       · refine .inl ⟨?_,e0 l ?_⟩
         · cases e5:gs l with
           |none=>rfl
           |some p=>exact absurd (g.1 l p e5).1 m
         · rcases xI.1 d with d|d
           · rcases xI.1 d with d|d
             · exact absurd d m
             · exact absurd (xJ.1 d) i
           · exact d
    have d8:Y4 (c++[e]++A1) S h0 (a.new y) μ (Cq gs e (some a.next)):=by
     refine⟨λj p b=>?_,λj w p b f=>?_⟩
     · by_cases h:j=e
       · subst h;have:some a.next=some p:=by simpa[Cq] using b
         cases this;exact⟨by simp,x.ghost.1,by omega,λ_=>a0.none (vE _)⟩
       · rw[s j h] at b;obtain⟨c6,c9,g1,d0⟩:=g.1 j p b;exact⟨by simp[c6],c9,by omega,d0⟩
     · have c2:∀j,j≠e→gs j=some a.next→False:=λj _ b=>by have:=(g.1 j _ b).2.2.1;omega
       by_cases h:j=e
       · by_cases u:w=e
         · rw[h,u]
         · rw[s w u] at f;rw[h] at b;have:some a.next=some p:=by simpa[Cq] using b
           cases this;exact(c2 w u f).elim
       · by_cases u:w=e
         · rw[s j h] at b;rw[u] at f;have:some a.next=some p:=by simpa[Cq] using f
           cases this;exact(c2 j h b).elim
         · rw[s j h] at b;rw[s w u] at f;exact g.2 j w p b f
    have d1:c++[e]++A1++a9=pi:=by rw[←all,b6];simp
    obtain⟨A',a4,k,f8,a6,d2,d3,c3,c4,d4,d5,c7,c8⟩:=f6 (by rw[b6] at i;simp at i;omega) d1 (λj b=>by simp[sub j b]) d7 d8 (a0.ghost y) (x.Aec a0 y) f9;exact⟨A',a4,k,f8,a6,d2,λj b=>d3 j (by simp[b]),b2.trans c3 λj b=>by simp[b],c4,d4,d5,c7,c8⟩
include wf ok Dv hQ hpi hall
theorem Adh{S:Nat→Bool}{a:Act}{b:World}(c:Inv P ops E N G D call f0 Kf Df h0 w0 pi S a b)(d:∀f,f<ops.size→S f=true):Q .normal a b:=by
 have _u1:=wf;have _u2:=ok;have _u3:=Dv;have _u4:=hpi;have _u5:=hall;obtain⟨g,v,h,μ,i,gs,k,sub,fr,l,x,m,_,_,_,tl⟩:=c.ex;cases tl with
 |stop n o p q r s u=>have:=sub _ (d _ (Array.getElem?_eq_some_iff.1 o).1);exact absurd this q
 |fin n w=>
  refine hQ μ _ h a b ⟨fr.size,λt=>?_,fr.defs⟩ l x m w;rcases n t with h|h
  · rw[h];trivial
  · have e:FS ops v f0 (Dy g) ops.size t=FS ops v f0 S ops.size t:=IB λj y _=>⟨by rw[d j y,B9.2 (sub j (d j y))],λ_=>rfl⟩;rw[h,e];exact fr.get t
theorem js{b:Option Nat}{S:Nat→Bool}{a:Act}{c:World}(d:Inv P ops E N G D call f0 Kf Df h0 w0 pi S a c){i:Nat}(f:i<ops.size)(hi:S i=false)(g:KS ops S i){next:Act→World→Prop}
 (h:∀k m,Inv P ops E N G D call f0 Kf Df h0 w0 pi (Cq S i true) k m→next k m):wpOpIn (Fo b) 0 P ops Q i next a c:=by
 have _u1:=hQ;obtain⟨n,v,r,μ,s,gs,u,sub,fr,w,x,y,b,a0,all,tl⟩:=d.ex;have d:=gG hpi n s all.symm;have a1:DC ops (Cq S i true):=u.insert g;by_cases a2:i∈n
 · have a3:∀j,Cq S i true j=true→j∈n:=λj a4=>by
    by_cases e:j=i
    · rw[e];exact a2
    · exact sub j (by simpa[Cq,e] using a4)
   have a5:∀j,Cq S i true j=false→j≠i∧S j=false:=λj a6=>by
    have e:j≠i:=λe=>by simp[Cq,e] at a6
    exact⟨e,by simpa[Cq,e] using a6⟩
   have a7:Ph P ops E call f0 n (Cq S i true) gs v r:=λj a4 a6=>b j a4 (a5 j a6).2;rcases b i a2 hi with⟨_,a8⟩|⟨p,a9,b0⟩
   · refine Afu wf ok Dv a8 u hi g fr w y λb1 k m b2 b3 b4=>h k m ⟨n,v,r,b1,s,gs,a1,a3,b2,b3,x.trans b4,y.mono b4.le,a7,⟨λj q a4=>?_,a0.2⟩,all,tl⟩;obtain⟨k,a8,b2,b5⟩:=a0.1 j q a4;exact⟨k,a8,b2,λa6=>(b4.ghost.2 q b2 (b5 (a5 j a6).2)).1⟩
   · obtain⟨o,b6,b7,b8,b9,c0,c1,c2,c5,c6,c9⟩:=b0.ex;obtain⟨_,b8,d0,d1⟩:=a0.1 i p a9;have d1:=d1 hi;have d2:=wf.ok o (Array.mem_of_getElem? b9);simp only[Er,vK] at d2;have d3:∀x∈o.op.operands.toList,CS G x=true:=by have d4:=d2.2;simp only[Lz,vK] at d4;exact λx d5=>(wm.1 d4.1) x d5
     obtain⟨d6,d7,d8⟩:=c5 (μ:=μ) (a:=a) λx d5=>by
      refine Ot (C:=CP E) y (d3 x d5) λt d6=>?_;subst d6;have c5:t∈o.looksAt ops:=xG _ (xH.2 ⟨.tmp t,d5,rfl⟩);show VR μ (b6 t) (a.tmps.getD t undef);rcases c2 t c5 with r|r
      · rw[r];trivial
      · rw[r,←GO wf u b9 hi g c5];exact fr.get t
     obtain⟨b6,c2,sz,d9,e0⟩:=d8 c;obtain⟨c,b3⟩:=w.fill d0 d1 (λb1 c=>by rw[c9];exact(e0 b1 c).1);have b4:=x.fill b8 d1 c2 sz;have d8:Cq v i (v i)=v:=by funext j;simp only[Cq];split<;>simp_all
     have d0:=Qq (v:=v) (f0:=f0) wf u b9 hi (a:=v i);rw[d8] at d0;unfold wpOpIn;rw[b9];simp only;rw[if_pos (by unfold Region.wanted;rw[c1])];refine Ff (λc9 b8=>by rw[b8] at c0;cases c0) ?_;rw[d7 o rfl,Aa d9];refine h _ _ ⟨n,v,r,_,s,gs,a1,a3,?_,b3,b4,y.mono c,a7,⟨λj q a4=>?_,a0.2⟩,all,tl⟩
     · rw[d0];refine(fr.mono c).put d2.1 ?_;rw[c6];exact(e0 _ c).2 p (Mu.BD _ _ _)
     · obtain⟨k,a8,b2,b5⟩:=a0.1 j q a4;refine⟨k,a8,b2,λa6=>?_⟩;obtain⟨c,c2⟩:=a5 j a6;rw[Mu.Bs _ _ (λe=>c (a0.2 j i p (by rw[←e];exact a4) a9))];exact b5 c2
 · have c:i∈s:=by
    rcases xI.1 (all▸hall i f) with r|r
    · exact absurd r a2
    · exact r
   cases tl with
   |fin=>cases c
   |stop a6 b9 s f d1 d5 d8=>
    rename_i c9 e b8 o c0 C;have d7:i=e:=by
     rcases vw.1 c with r|r
     · exact r
     · have:=sub e (g.Jz u (d1.later i r));exact absurd this f
    subst d7;have d2:=wf.ok o (Array.mem_of_getElem? b9);simp only[Er,vK] at d2;have c:KS ops (Dy n) i:=λf d9 a3 a7 d0=>B9.2 (sub _ (g f d9 a3 a7 d0));have f:=a6.view wf d b9 a2 c;have c6:∀t∈o.looksAt ops,b8 t=.top∨b8 t=FS ops v f0 S ops.size t:=λt d6=>by
     rcases f t d6 with r|r
     · exact .inl r
     · right;rw[r];exact(GO wf u b9 hi g d6).symm
    have f:Region.wanted o (yielded ops a.tmps)=true:=by
     unfold Region.wanted;cases c1:o.guard with
     |none=>rfl
     |some p=>
      obtain⟨c2,m⟩:=p;obtain⟨c0,c9,d7,a3⟩:=wf.guard i o c2 m b9 c1;have a7:=fr.get c9;rw[HV d7 a3 (g.Jz u c0),s c2 m c1] at a7;have a7:a.tmps.getD c9 undef=.bool m:=a7;have s:c9<a.tmps.size:=by obtain⟨d0,d9,a3⟩:=G7 d7;have:=wf.ok d0 (Array.mem_of_getElem? d9);simp only[Er,vK] at this;rw[a3] at this;exact vZ (by simpa[Hm] using this.1) fr.size
      show(yielded ops a.tmps c2==some m)=true;rw[F8,show((ops[c2]?).bind (·.dst))=some c9 from d7];show(yb (a.tmps[c9]?)==some m)=true;have:a.tmps[c9]? =some (.bool m):=by rw[Array.getD_eq_getD_getElem?,Array.getElem?_eq_getElem s] at a7;rw[Array.getElem?_eq_getElem s];exact congrArg some a7
      rw[this];simp[yb]
    unfold wpOpIn;rw[b9];simp only;rw[if_pos f];have d3:∀x∈o.op.operands.toList,CS G x=true:=by have d4:=d2.2;simp only[Lz,vK] at d4;exact λx d5=>(wm.1 d4.1) x d5
    refine TT (C:=CP E) (good:=λp=>p) (λr=>r) ok Dv d2.2 (λx d5=>?_) w y (OS d5) ?_
    · refine Ot (C:=CP E) y (d3 x d5) λt d6=>?_;subst d6;have c5:t∈o.looksAt ops:=xG _ (xH.2 ⟨.tmp t,d5,rfl⟩);show VR μ (b8 t) (a.tmps.getD t undef);rcases c6 t c5 with r|r
      · rw[r];trivial
      · rw[r];exact fr.get t
    · intro b1 b7 s b6 m b3 b4 a7 f;have f:=Kv f;obtain⟨w,c0⟩:=Kx d1.kinds f;have f:EH n v (Cq v i b7):=H8 a2;have c1:=a6.snoc wf d b9 a2 b7;have d0:DC ops (Dy (n++[i])):=by rw[F0];exact d.insert c
      cases d8 with
      |mk d8=>
       obtain⟨c,A1,d9,a3,c2,d7,c9⟩:=(d8 _ _ _ f c1 w).tail;have w:EH n v c:=f.trans c2 λj a4=>xG _ a4;have f:c i=b7:=by rw[c2 i (by simp)];simp[Cq]
       have f:∀j,Cq S i true j=true→j∈n++[i]:=λj a4=>by
        by_cases e:j=i
        · rw[e];simp
        · exact xG _ (sub j (by simpa[Cq,e] using a4))
       have d4:FS ops c f0 (Cq S i true) ops.size=Den.BS (FS ops v f0 S ops.size) o.dst b7:=by rw[←Aah c2 f,Qq wf u b9 hi]
       have d3:∀l∈n,∀j,j=l∨EW ops l j→v j=c j:=λl d6 j a4=>by
        have d5:j∈n:=by
         rcases a4 with rfl|a4
         · exact d6
         · exact B9.1 (d.Jz (B9.2 d6) a4)
        exact(w j d5).symm
       have w:∀j,j∉n→gs j=none:=λj a4=>by
        cases b8:gs j with
        |none=>rfl
        |some p=>exact absurd (a0.1 j p b8).1 a4
       have a5:∀j,Cq S i true j=false→j≠i∧S j=false:=λj a6=>by
        have e:j≠i:=λe=>by simp[Cq,e] at a6
        exact⟨e,by simpa[Cq,e] using a6⟩
       -- what was done ahead still holds of the new memory
       have c5:Ph P ops E call f0 (n++[i]++A1) (Cq S i true) gs c s:=by
        intro l d6 c;obtain⟨c6,c⟩:=a5 l c;by_cases b6:l∈n
        · have d0:¬EW ops i l:=λr=>by rw[g.Jz u r] at c;cases c
          rcases b l b6 c with⟨g,u,c1,d8⟩|⟨p,a9,b0⟩
          · refine .inl ⟨g,Fact.congr wf (d3 l b6) (Tu d a6 b9 a2 c0 b6 c1 d8 λb=>?_)⟩;rcases d1.look l u b6 c1 b with r|d
            · exact absurd r d0
            · rcases d1.rl l u b6 c1 b with r|e0
              · exact absurd r d0
              · exact⟨d,e0⟩
          · obtain⟨_,_,b2,b5⟩:=a0.1 l p a9;exact .inr ⟨p,a9,b0.congr (d3 l b6) (b4.ghost.2 p b2 (b5 c)).2⟩
        · refine .inl ⟨w l b6,d7 l ?_⟩;rcases xI.1 d6 with d6|d6
          · rcases xI.1 d6 with d6|d6
            · exact absurd d6 b6
            · exact absurd (xJ.1 d6) c6
          · exact d6
       have g:Y4 (n++[i]++A1) (Cq S i true) h0 s b1 gs:=by refine⟨λj p a4=>?_,a0.2⟩;obtain⟨k,a8,b2,b5⟩:=a0.1 j p a4;exact⟨by simp[k],a8,vZ b2 b4.ghost.1,λa6=>(b4.ghost.2 p b2 (b5 (a5 j a6).2)).1⟩
       obtain⟨A',b,u,r,d,c,w,c3,c4,n,s,c7,c8⟩:=settle wf ok hpi d9.length (vE _) (by rw[←all,a3];simp) (λj a4=>xG _ (f j a4)) c5 g b3 (x.trans b4) c9;refine h _ m ⟨A',b,u,b1,r,d,a1,λj a4=>w j (xG _ (f j a4)),?_,s,c7,y.mono b4.le,c4,n,c,c8⟩;rw[←Aah c3 (λj a4=>xG _ (f j a4)),d4];exact(fr.mono b4.le).put d2.1 a7
theorem Ahr{b:Option Nat}:∀(c:Nat)(listed:Array Bool)(a:Act)(d:World),listed.size=ops.size→(xM ops.size).countP (λj=>!listed.getD j false)≤c→Inv P ops E N G D call f0 Kf Df h0 w0 pi (λj=>listed.getD j false) a d→wpAnyIn (Fo b) 0 P .any ops Q c listed a d:=by
 have fin:∀(listed:Array Bool)(a:Act)(d:World),listed.size=ops.size→Inv P ops E N G D call f0 Kf Df h0 w0 pi (λj=>listed.getD j false) a d→Region.ready .any ops listed=[]→Q .normal a d:=by
  intro listed a d f g h;refine Adh wf ok Dv hpi hall hQ g λi hi=>?_
  -- the least one that was not done would be ready
  have k:∀n,∀i,i<n→i<ops.size→listed.getD i false=true:=by
   intro n;induction n with
   |zero=>intro i l;omega
   |succ n m=>
    intro i l p;cases q:listed.getD i false with
    |true=>rfl
    |false=>
     exfalso;have r:i∈Region.ready .any ops listed:=by
      rw[mem_ready];refine⟨?_,ops[i],Array.getElem?_eq_getElem p,λe s t=>?_⟩
      · rw[Array.getD_eq_getD_getElem?,Array.getElem?_eq_getElem (by omega)] at q ⊢;exact q
      · have u:=wf.lt i _ e (Array.getElem?_eq_getElem p) s t;exact m e.on (by omega) (by omega)
     rw[h] at r;cases r
  exact k (i+1) i (by omega) hi
 intro c;induction c with
 |zero=>
  intro listed a d f v g;have hall:∀i,i<ops.size→listed.getD i false=true:=λi hi=>by
   have h0:(xM ops.size).countP (λj=>!listed.getD j false)=0:=by omega
   have:=List.countP_eq_zero.1 h0 i (xO.2 hi);simpa using this
  have h:Region.ready .any ops listed=[]:=by rw[List.eq_nil_iff_forall_not_mem];intro j w;obtain⟨x,o,y,_⟩:=mem_ready.1 w;have p:=(Array.getElem?_eq_some_iff.1 y).1;have:=hall j p;rw[Array.getD_eq_getD_getElem?,Array.getElem?_eq_getElem (by omega)] at x this;rw[show(some (listed[j]'(by omega))).getD true=(some (listed[j]'(by omega))).getD false from rfl,this] at x;cases x
  exact⟨h,fin listed a d f g h⟩
 |succ c m=>
  intro listed a d f v g;refine⟨fin listed a d f g,λi hi=>?_⟩;obtain⟨x,o,y,b⟩:=mem_ready.1 hi;have p:=(Array.getElem?_eq_some_iff.1 y).1;have l:listed.getD i false=false:=by rw[Array.getD_eq_getD_getElem?,Array.getElem?_eq_getElem (by omega)] at x ⊢;exact x
  refine js wf ok Dv hpi hall hQ g p l (λq e x u s=>by rw[y] at x;cases x;exact b e u s) λt r k=>?_;refine m _ t r (by simp[f]) ?_ ?_
  · have e:(λj=>!(listed.setIfInBounds i true).getD j false)=λj=>!Cq (λj=>listed.getD j false) i true j:=by have:=NI (listed:=listed) (i:=i) (by omega);funext j;rw[←congrFun this j]
    rw[e];have:=eu (S:=λj=>listed.getD j false) l ops.size p;omega
  · rw[NI (by omega)];exact k
end
end
end Go.Den
namespace Go.Den
open Go.RowKit
open Classical
def fB(n:Nat)(K:Nat→Bool):Bool:=Nat.rec false (λm _=>K m) (Nat.succ n)
def fL(l:List Nat):(List Nat→Bool)→Bool:=wj (motive:=λ_=>(List Nat→Bool)→Bool) (λK=>K []) (λx _ a K=>fB x (λx=>a (λl=>K (x::l)))) l
theorem cj:∀(l:List Nat)(K:List Nat→Bool),fL l K=K l
 |[],_=>rfl
 |x::l,K=>cj l (λl=>K (x::l))
def Gs(i:Nat)(l:List Nat):Bool:=wj false (λx _ a=>wg a true (vS x i)) l
theorem Fu{i:Nat}:∀{l:List Nat},Gs i l=true↔i∈l
 |[]=>by simp[Gs]
 |x::l=>by
  have a:=Fu (i:=i) (l:=l);show(wg (Gs i l) true (vS x i):Bool)=true↔_;cases b:vS x i with
  |true=>simp[Bh b]
  |false=>
   have c:x≠i:=λe=>by rw[e,Nat.beq_refl] at b;cases b
   rw[vw,←a];exact⟨.inr,λb=>b.resolve_left (λe=>c e.symm)⟩
def Hy{a:Type}(p:a→Bool)(l:List a):Bool:=wj true (λx _ b=>wg false b (p x)) l
theorem DQ{a:Type}{p:a→Bool}:∀{l:List a},Hy p l=true↔∀x∈l,p x=true
 |[]=>by simp[Hy]
 |x::l=>by
  have b:=DQ (p:=p) (l:=l);show(wg false (Hy p l) (p x):Bool)=true↔_;cases c:p x with
  |true=>simp[c,b]
  |false=>simp[c]
theorem FY(m i:Nat):bit m i=xD m i:=by unfold bit;rw[Nat.testBit_eq_decide_div_mod_eq,DY];show decide ((m >>> i)%2=1)=_;rw[Nat.shiftRight_eq_div_pow]
def Xd(l:List Nat):Nat:=wj 0 (λt _ a=>xB (xE 1 t) a) l
theorem SL(t i:Nat):xD (xE 1 t) i=decide (t=i):=by show xD (1 <<< t) i=_;rw[Nat.shiftLeft_eq,Nat.one_mul,Nat.testBit_two_pow]
theorem SR{i:Nat}:∀{l:List Nat},bit (Xd l) i=true↔i∈l
 |[]=>by rw[FY];show xD 0 i=true↔_;simp
 |t::l=>by have a:=SR (i:=i) (l:=l);rw[FY] at a ⊢;show xD (xE 1 t|||Xd l) i=true↔_;rw[xF,SL,wP,a];simp only[decide_eq_true_eq,vw];exact⟨λb=>b.imp Eq.symm id,λb=>b.imp Eq.symm id⟩
section
variable(P:Program)(E:Env)(N G:Nat)(ops:List Oper)(ms ls:List Nat)
def gN(l:List Nat)(i:Nat):Nat:=wz 0 (λm=>m) (Cj l i)
def MH(o:Oper)(d:Nat):Bool:=wz false (λe=>vS e d) o.dst
def Qe(x a:Oper)(b c:Nat):Bool:=An (wz true (λd=>An (Bm (bit c d)) (Bm (MH a d))) x.dst) (wz true (λd=>Bm (bit b d)) a.dst)
def XG(i:Nat)(x:Oper)(j:Nat)(y:Oper):Bool:=wg (wg (Qe x y (gN ls i) (gN ls j)) true (bit (gN ms j) i)) true (bit (gN ms i) j)
def QI(a:Nat)(x:Oper)(l:List Oper):Nat→Bool:=wj (motive:=λ_=>Nat→Bool) (λ_=>true) (λb _ c j=>An (XG ms ls a x j b) (c (vN j 1))) l
def LX(l:List Oper):Nat→Bool:=wj (motive:=λ_=>Nat→Bool) (λ_=>true) (λx r a b=>An (QI ms ls b x r (vN b 1)) (a (vN b 1))) l
def Te(i:Nat)(o:Oper):Bool:=Hy (λe=>wg true (vU (vN e.on 1) i) (Region.binds .any e)) o.after.toList
def JR(a b:Nat)(l:List Oper):Nat→Bool:=wj (motive:=λ_=>Nat→Bool) (λ_=>true) (λc _ d j=>An (wg true (vS j b) (MH c a)) (d (vN j 1))) l
def Q1(o:Oper):Bool:=wz true (λp=>An (Bm (Hy (λe=>Bm (An (Region.binds .any e) (vS e.on p.1))) o.after.toList)) (wz false (λa=>wz false (λb=>JR b p.1 ops 0) a.dst) (Cj ops p.1))) o.guard
def WC(l:List Oper):Nat→Bool:=wj (motive:=λ_=>Nat→Bool) (λ_=>true) (λo _ a b=>An (An (Er P E N G o) (An (Te b o) (Q1 ops o))) (a (vN b 1))) l
def aJ(o:Oper)(A:List Nat):Bool:=Hy (λe=>wg true (Gs e.on A) (Region.binds .any e)) o.after.toList
def Oy(a t:Nat)(l:List Oper):Nat→Bool:=wj (motive:=λ_=>Nat→Bool) (λ_=>true) (λb _ c j=>An (wg true (bit a j) (MH b t)) (c (vN j 1))) l
def Ia(l:Nat)(a:Oper):Bool:=An (wz false (λb=>JR b l ops 0) a.dst) (Hy (λt=>Oy (gN ms l) t ops 0) (a.looksAt ops.toArray))
def oU(a:Nat)(b:List (Nat×Oper))(l:Nat):Bool:=wz true (λc=>wg true (wg (An (Gs l (b.map (·.1))) (Ia ops ms l c)) true (bit (gN ms a) l)) (vS (kindOf E c.op) 1)) (Cj ops l)
def TD(a:Nat)(b:List (Nat×Oper))(c d:List Nat):Bool:=An (Hy (λj=>bit (gN ms j) a) d) (An (Hy (oU E ops ms a b) c) (Hy (λp=>vU (kindOf E p.2.op) 1) b))
def mW(a:List (Nat×Oper))(l:Nat):Bool:=wz true (λb=>wg true (An (Gs l (a.map (·.1))) (Ia ops ms l b)) (vS (kindOf E b.op) 1)) (Cj ops l)
def Bap(g:Option (Nat×Bool)):Bool:=match g with
 |none=>true
 |some _=>false
def P2(o:Oper)(a:List (Nat×Oper))(b:List Nat):Bool:=An (An (KJ o.op) (Bap o.guard)) (An (Hy (mW E ops ms a) b) (Hy (λp=>vU (kindOf E p.2.op) 1) a))
def Yr(BG:Dr):Option (Nat×Bool)→List Nat→List Nat→List Nat→Bool:=Dr.rec (motive:=λ_=>Option (Nat×Bool)→List Nat→List Nat→List Nat→Bool)
 (λ_ _ _ _=>true)
 (λa o b r c d f g h=>An (An (Dn o.guard d) (An (Bm (Gs a g)) (aJ o g))) (An (wg (wj true (λ_ _ _=>false) b) (wg (P2 E ops ms o b g) true (TD E ops ms a b g (r.idx++h))) (vS (kindOf E o.op) 2)) (c d (a::f) (g++[a]) h)))
 (λj i k l m pk r n p d f g h=>An (An (wz false (λo=>MH o i) (Cj ops j)) (An (JR i j ops 0) (An (Gs j g) (Gs j f)))) (An (An (Dn pk.guard d) (An (Iu G i k pk.op) (An (Bm (Gs m (g++l.idx))) (aJ pk (g++l.idx)))))
  (An (n (some (j,k)) [] g (m::r.idx++h)) (p d (m::f) (g++l.idx++[m]) h)))) BG
def Nm(a:List Nat):Bool:=fL (DP ops []) (λms=>fL (ops.map λo=>Xd (o.looksAt ops.toArray)) (λls=>
 An (WC P E N G ops ops 0) (An (LX ms ls ops 0) (wz true (λBG=>An (Yr E G ops ms BG none [] [] []) (Hy (λb=>Gs b BG.idx) (xM (len ops)))) (UI E ops a)))))
end
end Go.Den
namespace Go.Den
open Go.RowKit
open Classical
section
variable{P:Program}{E:Env}{N G:Nat}{D:List Deferred}{ops:Array Oper}
theorem Us{acc:List Nat}{j:Nat}:∀{es:List Edge},bit (J4 acc es) j=true→∃e∈es,Region.binds .any e=true∧(j=e.on∨bit (gN acc e.on) j=true)
 |[],a=>by rw[FY] at a;have a:xD 0 j=true:=a;simp at a
 |e::es,a=>by
  have b:=Us (acc:=acc) (j:=j) (es:=es);have a:bit (wg (J4 acc es) (xB (J4 acc es) (xB (xE 1 e.on) (gN acc e.on))) (Region.binds .any e)) j=true:=a;cases c:Region.binds .any e with
  |false=>rw[c] at a;obtain⟨d,f,g⟩:=b a;exact⟨d,xK _ f,g⟩
  |true=>
   rw[c,FY] at a;have a:xD (J4 acc es|||(xE 1 e.on|||gN acc e.on)) j=true:=a;rw[xF,xF,SL,wP,wP] at a;rcases a with a|a|a
   · rw[←FY] at a;obtain⟨d,f,g⟩:=b a;exact⟨d,xK _ f,g⟩
   · exact⟨e,by simp,c,.inl (of_decide_eq_true a).symm⟩
   · exact⟨e,by simp,c,.inr (by rw[FY];exact a)⟩
theorem XH(l:List Nat)(i:Nat):gN l i=l[i]?.getD 0:=by unfold gN;rw[CU];cases l[i]?<;>rfl
theorem Uw:∀(l:List Oper)(a:List Nat),ops.toList.drop a.length=l→(∀b j,bit (gN a b) j=true→EW ops b j)→∀b j,bit (gN (DP l a) b) j=true→EW ops b j
 |[],_,_,c,b,j,d=>c b j d
 |o::l,a,f,c,b,j,d=>by
  have d:bit (gN (DP l (Eh a [J4 a o.after.toList])) b) j=true:=d;rw[If] at d;have g:ops[a.length]? =some o:=by rw[←Array.getElem?_toList];have:=congrArg (·[0]?) f;simpa using this
  refine Uw l (a++[J4 a o.after.toList]) ?_ ?_ b j d
  · rw[List.length_append,List.length_singleton,←List.drop_drop,f];rfl
  · intro b j d;rw[XH] at d;by_cases hi:b<a.length
    · rw[List.getElem?_append_left hi,←XH] at d;exact c b j d
    · by_cases h:b=a.length
      · subst h;rw[List.getElem?_append_right (vE _)] at d;simp only[Nat.sub_self,List.getElem?_cons_zero,Option.getD_some] at d;obtain⟨e,h,i,k⟩:=Us d;have m:=EW.Y8 g (Array.mem_toList_iff.1 h) i;rcases k with rfl|k
        · exact m
        · exact m.trans (c _ _ k)
      · rw[List.getElem?_eq_none (by simp;omega)] at d;rw[FY] at d;have d:xD 0 j=true:=d;simp at d
theorem Jj{i j:Nat}(h:bit (gN (DP ops.toList []) i) j=true):EW ops i j:=
 Uw ops.toList [] rfl (λi j h=>by rw[XH,FY] at h;simp at h) i j h
theorem SX{a:List Oper}:∀{l:List Oper}{b:Nat},WC P E N G a l b=true→∀c o,l[c]? =some o→Er P E N G o=true∧Te (b+c) o=true∧Q1 a o=true
 |[],_,_,c,o,d=>by simp at d
 |x::l,b,d,c,o,f=>by
  obtain⟨g,h⟩:=Ao (show An (An (Er P E N G x) (An (Te b x) (Q1 a x))) (WC P E N G a l (vN b 1))=true from d);cases c with
  |zero=>
   have e:x=o:=by simpa using f
   subst e;obtain⟨i,j⟩:=Ao g;obtain⟨j,k⟩:=Ao j;exact⟨i,j,k⟩
  |succ c=>have:=SX h c o (by simpa using f);rw[show vN b 1+c=b+(c+1) from by show b+1+c=_;omega] at this;exact this
theorem Po{a b:List Nat}{c:Nat}{x:Oper}:∀{l:List Oper}{d:Nat},QI a b c x l d=true→∀f o,l[f]? =some o→XG a b c x (d+f) o=true
 |[],_,_,f,o,g=>by simp at g
 |h::l,d,g,f,o,i=>by
  obtain⟨j,k⟩:=Ao (show An (XG a b c x d h) (QI a b c x l (vN d 1))=true from g);cases f with
  |zero=>
   have e:h=o:=by simpa using i
   subst e;exact j
  |succ f=>have:=Po k f o (by simpa using i);rw[show vN d 1+f=d+(f+1) from by show d+1+f=_;omega] at this;exact this
theorem Ms{a b:List Nat}:∀{l:List Oper}{c:Nat},LX a b l c=true→∀d f x g,d<f→l[d]? =some x→l[f]? =some g→XG a b (c+d) x (c+f) g=true
 |[],_,_,d,f,x,g,_,h,_=>by simp at h
 |z::l,c,h,d,f,x,g,i,j,k=>by
  obtain⟨m,n⟩:=Ao (show An (QI a b c z l (vN c 1)) (LX a b l (vN c 1))=true from h);cases f with
  |zero=>omega
  |succ f=>
   cases d with
   |zero=>
    have e:z=x:=by simpa using j
    subst e;have:=Po m f g (by simpa using k);rw[show vN c 1+f=c+(f+1) from by show c+1+f=_;omega] at this;exact this
   |succ d=>have:=Ms n d f x g (by omega) (by simpa using j) (by simpa using k);rw[show vN c 1+f=c+(f+1) from by show c+1+f=_;omega,show vN c 1+d=c+(d+1) from by show c+1+d=_;omega] at this;exact this
theorem LK{o:Oper}{d:Nat}:MH o d=true↔o.dst=some d:=by
 unfold MH;cases o.dst with
 |none=>simp
 |some e=>show vS e d=true↔_;rw[DY];simp
theorem cV{x a:Oper}{b c:Nat}(d:∀t,bit b t=true↔t∈x.looksAt ops)(f:∀t,bit c t=true↔t∈a.looksAt ops)(g:Qe x a b c=true):x.apart ops a=true∧a.apart ops x=true:=by
 obtain⟨h,i⟩:=Ao g;have j:∀k,x.dst=some k→k∉a.looksAt ops∧a.dst≠some k:=λk l=>by
  rw[l] at h;obtain⟨m,n⟩:=Ao (show An (Bm (bit c k)) (Bm (MH a k))=true from h);rw[Fg] at m n;constructor
  · intro o;rw[(f k).2 o] at m;cases m
  · intro p;rw[LK.2 p] at n;cases n
 have q:∀k,a.dst=some k→k∉x.looksAt ops:=λk l=>by rw[l] at i;have i:Bm (bit b k)=true:=i;rw[Fg] at i;exact λo=>by rw[(d k).2 o] at i;cases i
 constructor
 · unfold Oper.apart;rw[vK];constructor
   · cases l:x.dst with
     |none=>rfl
     |some k=>obtain⟨m,n⟩:=j k l;simp[m,n]
   · cases l:a.dst with
     |none=>rfl
     |some k=>simp[q k l]
 · unfold Oper.apart;rw[vK];constructor
   · cases l:a.dst with
     |none=>rfl
     |some k=>have n:x.dst≠some k:=λp=>(j k p).2 l;simp[q k l,n]
   · cases l:x.dst with
     |none=>rfl
     |some k=>simp[(j k l).1]
theorem Rz{a b:Nat}:∀{l:List Oper}{c:Nat},JR a b l c=true→∀d o,l[d]? =some o→o.dst=some a→c+d=b
 |[],_,_,d,o,f,_=>by simp at f
 |g::l,c,f,d,o,h,i=>by
  obtain⟨j,k⟩:=Ao (show An (wg true (vS c b) (MH g a)) (JR a b l (vN c 1))=true from f);cases d with
  |zero=>
   have e:g=o:=by simpa using h
   subst e;rw[LK.2 i] at j;exact Bh j
  |succ d=>have:=Rz k d o (by simpa using h) i;rw[show vN c 1+d=c+(d+1) from by show c+1+d=_;omega] at this;exact this
theorem L1{a b:Nat}(c:JR a b ops.toList 0=true):∀j,Cz ops j=some a→j=b:=λj d=>by obtain⟨o,f,g⟩:=G7 d;have:=Rz c j o (by rw[Array.getElem?_toList];exact f) g;omega
theorem IZ{a t:Nat}:∀{l:List Oper}{b:Nat},Oy a t l b=true→∀c o,l[c]? =some o→o.dst=some t→bit a (b+c)=true
 |[],_,_,c,o,d,_=>by simp at d
 |f::l,b,d,c,o,g,h=>by
  obtain⟨i,j⟩:=Ao (show An (wg true (bit a b) (MH f t)) (Oy a t l (vN b 1))=true from d);cases c with
  |zero=>
   have e:f=o:=by simpa using g
   subst e;rw[LK.2 h] at i;exact i
  |succ c=>have:=IZ j c o (by simpa using g) h;rw[show vN b 1+c=b+(c+1) from by show b+1+c=_;omega] at this;exact this
theorem Axs{a:List Nat}(b:a=ops.toList.map λo=>Xd (o.looksAt ops))(c:WC P E N G ops.toList ops.toList 0=true)(d:LX (DP ops.toList []) a ops.toList 0=true):Wf P E N G ops:=by
 have get:∀{f:Nat}{o:Oper},ops[f]? =some o→ops.toList[f]? =some o:=λg=>by rw[Array.getElem?_toList];exact g
 have h:=λf o (g:ops[f]? =some o)=>SX c f o (get g);have i:∀f o,ops[f]? =some o→∀t,bit (gN a f) t=true↔t∈o.looksAt ops:=λf o k t=>by rw[XH,b,List.getElem?_map,get k];exact SR
 refine⟨?_,?_,?_,?_⟩
 · intro f o e k l m;have:=DQ.1 (h f o k).2.1 e (Array.mem_toList_iff.2 l);rw[m] at this;have:=Bq this;have g:e.on+1≤0+f:=this;omega
 · intro f j n p hi q r;have s:∀f j n p,ops[f]? =some n→ops[j]? =some p→f<j→EW ops f j∨EW ops j f∨(n.apart ops p=true∧p.apart ops n=true):=by
    intro f j n p hi q u;have g:=Ms d f j n p u (get hi) (get q);rw[wJ,wJ] at g;have g:(wg (wg (Qe n p (gN a f) (gN a j)) true (bit (gN (DP ops.toList []) j) f)) true (bit (gN (DP ops.toList []) f) j):Bool)=true:=g;cases m:bit (gN (DP ops.toList []) f) j with
    |true=>exact .inl (Jj m)
    |false=>
     rw[m] at g;have g:(wg (Qe n p (gN a f) (gN a j)) true (bit (gN (DP ops.toList []) j) f):Bool)=true:=g;cases v:bit (gN (DP ops.toList []) j) f with
     |true=>exact .inr (.inl (Jj v))
     |false=>rw[v] at g;exact .inr (.inr (cV (i f n hi) (i j p q) g))
   rcases Nat.lt_or_gt_of_ne r with g|g
   · rcases s f j n p hi q g with g|g|g
     · exact .inl g
     · exact .inr (.inl g)
     · exact .inr (.inr g.1)
   · rcases s j f p n q hi g with g|g|g
     · exact .inr (.inl g)
     · exact .inl g
     · exact .inr (.inr g.2)
 · intro f o w x k y;have g:=(h f o k).2.2;unfold Q1 at g;rw[y] at g;obtain⟨c,b⟩:=Ao (show An (Bm (Hy (λe=>Bm (An (Region.binds .any e) (vS e.on w))) o.after.toList)) (wz false (λd=>wz false (λu=>JR u w ops.toList 0) d.dst) (Cj ops.toList w))=true from g);constructor
   · rw[Fg] at c;have:∃e∈o.after.toList,Bm (An (Region.binds .any e) (vS e.on w))=false:=by
      refine Classical.byContradiction λa=>?_;have:Hy (λe=>Bm (An (Region.binds .any e) (vS e.on w))) o.after.toList=true:=DQ.2 λe l=>by
       cases m:Bm (An (Region.binds .any e) (vS e.on w)) with
       |true=>rfl
       |false=>exact absurd ⟨e,l,m⟩ a
      rw[this] at c;cases c
     obtain⟨e,l,m⟩:=this;rw[Fg] at m;have m:An (Region.binds .any e) (vS e.on w)=true:=by simpa using m
     obtain⟨i,v⟩:=Ao m;have:=EW.Y8 k (Array.mem_toList_iff.1 l) i;rw[Bh v] at this;exact this
   · rw[CU,Array.getElem?_toList] at b;cases r:ops[w]? with
     |none=>rw[r] at b;cases b
     |some d=>
      rw[r] at b;have b:(wz false (λu=>JR u w ops.toList 0) d.dst:Bool)=true:=b;cases n:d.dst with
      |none=>rw[n] at b;cases b
      |some u=>rw[n] at b;refine⟨u,by unfold Cz;rw[r];exact n,L1 b⟩
 · intro o k;obtain⟨f,hi,e⟩:=Array.mem_iff_getElem.1 k;exact(h f o (by rw[Array.getElem?_eq_getElem hi,e])).1
def Dr.iO(ops:Array Oper)(BG:Dr):Prop:=Dr.rec (motive:=λ_=>Prop) True (λa o b _ c=>ops[a]? =some o∧(∀p∈b,ops[p.1]? =some p.2)∧c) (λ_ _ _ _ d pk _ f g=>f∧ops[d]? =some pk∧g) BG
def RD(ops:Array Oper)(l:List bP):Prop:=∀t∈l,ops[t.1]? =some t.2.1∧∀p∈t.2.2,ops[p.1]? =some p.2
theorem bR{l0:List Oper}:∀(n:Nat)(a:Option (Nat×Bool))(l:List bP),RD ops l→Dr.iO ops (Ed l0 n a l).1∧RD ops (Ed l0 n a l).2:=by
 intro n;induction n with
 |zero=>intro a l b;exact⟨trivial,b⟩
 |succ n c=>
  intro a l b;cases l with
  |nil=>exact⟨trivial,b⟩
  |cons o d=>
   have f:=b o (by simp);have g:RD ops d:=λt h=>b t (by simp[h]);show Dr.iO ops (JC l0 (Ed l0 n) a (o::d)).1∧RD ops (JC l0 (Ed l0 n) a (o::d)).2;unfold JC;simp only;cases i:Dn o.2.1.guard a with
   |true=>simp only;have:=c a d g;generalize Ed l0 n a d=q at this ⊢;obtain⟨j,k⟩:=q;exact⟨⟨f.1,f.2,this.1⟩,this.2⟩
   |false=>
    simp only;cases m:o.2.1.guard with
    |none=>exact⟨trivial,b⟩
    |some p=>
     simp only;cases iX l0 a p.1 with
     |none=>exact⟨trivial,b⟩
     |some r=>
      simp only;have s:=c (some p) (o::d) b;generalize Ed l0 n (some p) (o::d)=q at s ⊢;obtain⟨j,k⟩:=q;cases k with
      |nil=>exact⟨trivial,b⟩
      |cons pk u=>simp only;have v:=s.2 pk (by simp);have w:=c a u λt h=>s.2 t (by simp[h]);generalize Ed l0 n a u=z at w ⊢;obtain⟨x,y⟩:=z;exact⟨⟨s.1,v.1,w.1⟩,w.2⟩
theorem Ss{ms:List Nat}{m:Nat}{g:Option (Nat×Bool)}:∀{done:List (Nat×Oper)},(∀p∈done,ops[p.1]? =some p.2)→∀p∈UE E ms m g done,ops[p.1]? =some p.2
 |[],_,p,a=>nomatch a
 |b::l,c,p,a=>by
  have a:p∈(wg (UE E ms m g l) (b::UE E ms m g l) (An (vS (kindOf E b.2.op) 1) (An (wg (Dn b.2.guard g) true (Dn b.2.guard none)) (Bm (bit m b.1)))):List (Nat×Oper)):=a;have d:=Ss (ms:=ms) (m:=m) (g:=g) (done:=l) (λq f=>c q (by simp[f])) p;cases h:An (vS (kindOf E b.2.op) 1) (An (wg (Dn b.2.guard g) true (Dn b.2.guard none)) (Bm (bit m b.1))) with
  |false=>rw[h] at a;exact d a
  |true=>
   rw[h] at a;rcases vw.1 a with rfl|a
   · exact c p (by simp)
   · exact d a
theorem Mx{ms:List Nat}:∀(a:List Nat)(done:List (Nat×Oper)),(∀p∈done,ops[p.1]? =some p.2)→RD ops (triples E ops.toList ms a done)
 |[],_,_,t,b=>nomatch b
 |c::a,done,d,t,b=>by
  have b:t∈(wz [] (λo=>(c,o,(wg [] (UE E ms (dM o.op ms c a) o.guard done) (vS (kindOf E o.op) 2):List (Nat×Oper)))::triples E ops.toList ms a (Eh done [(c,o)])) (Cj ops.toList c):List bP):=b;cases hi:Cj ops.toList c with
  |none=>rw[hi] at b;cases b
  |some o=>
   rw[hi] at b;have f:ops[c]? =some o:=by rw[CU,Array.getElem?_toList] at hi;exact hi
   rcases vw.1 b with rfl|b
   · refine⟨f,λp g=>?_⟩;have g:p∈(wg [] (UE E ms (dM o.op ms c a) o.guard done) (vS (kindOf E o.op) 2):List (Nat×Oper)):=g;cases h:vS (kindOf E o.op) 2 with
     |false=>rw[h] at g;cases g
     |true=>rw[h] at g;exact Ss d p g
   · refine Mx a _ (λp g=>?_) t b;rw[If] at g;rcases xI.1 g with g|g
     · exact d p g
     · rw[xJ.1 g];exact f
theorem eU{a:List Nat}{BG:Dr}(b:UI E ops.toList a=some BG):BG.iO ops:=by
 unfold UI at b;have:=(bR (ops:=ops) (l0:=ops.toList) (vN (vO 2 (len ops.toList)) 2) none _ (Mx (E:=E) (ms:=DP ops.toList []) a [] (λp c=>nomatch c))).1;generalize Ed ops.toList (vN (vO 2 (len ops.toList)) 2) none (triples E ops.toList (DP ops.toList []) a [])=q at b this;obtain⟨d,f⟩:=q;cases f with
 |nil=>cases b;exact this
 |cons=>cases b
end
end Go.Den
namespace Go.Den
open Go.RowKit
open Classical
section
variable{P:Program}{E:Env}{N G:Nat}{D:List Deferred}{ops:Array Oper}{call:CF}
theorem Zo{o:Oper}{a:List Nat}(b:aJ o a=true){c:Nat}(d:ops[c]? =some o):KS ops (Dy a) c:=λf e g h i=>by rw[d] at g;cases g;have:=DQ.1 b e (Array.mem_toList_iff.2 h);rw[i] at this;exact B9.2 (Fu.1 this)
theorem Jo{o:Oper}:∀{rl:List (Nat×Oper)},o∈KD rl↔∃p∈rl,p.2=o
 |[]=>by simp[KD]
 |p::rl=>by have a:=Jo (o:=o) (rl:=rl);show o∈p.2::KD rl↔_;rw[vw,a];simp only[vw,exists_eq_or_imp];exact⟨λb=>b.imp Eq.symm id,λb=>b.imp Eq.symm id⟩
theorem jP{a:Nat}{b:List (Nat×Oper)}{c d:List Nat}(f:∀p∈b,ops[p.1]? =some p.2)(g:TD E ops.toList (DP ops.toList []) a b c d=true):Qr ops E a (KD b) c d:=by
 obtain⟨h,i⟩:=Ao g;obtain⟨i,k⟩:=Ao i;have look:∀l m,l∈c→ops[l]? =some m→kindOf E m.op=1→EW ops a l∨(m∈KD b∧Ia ops.toList (DP ops.toList []) l m=true):=λl m n q r=>by
  have s:=DQ.1 i l n;unfold oU at s;rw[CU,Array.getElem?_toList,q] at s;have s:(wg true (wg (An (Gs l (b.map (·.1))) (Ia ops.toList (DP ops.toList []) l m)) true (bit (gN (DP ops.toList []) a) l)) (vS (kindOf E m.op) 1):Bool)=true:=s;rw[r] at s;have s:(wg (An (Gs l (b.map (·.1))) (Ia ops.toList (DP ops.toList []) l m)) true (bit (gN (DP ops.toList []) a) l):Bool)=true:=s;cases u:bit (gN (DP ops.toList []) a) l with
  |true=>exact .inl (Jj u)
  |false=>rw[u] at s;obtain⟨v,w⟩:=Ao s;obtain⟨p,x,y⟩:=xQ.1 (Fu.1 v);refine .inr ⟨Jo.2 ⟨p,x,?_⟩,w⟩;have:=f p x;rw[y,q] at this;exact(wU.inj this).symm
 refine⟨λo d=>?_,λj c=>Jj (DQ.1 h j c),λl m n q r=>?_,λl m n q r=>?_⟩
 · obtain⟨p,x,rfl⟩:=Jo.1 d;have:=Bq (DQ.1 k p x);omega
 · exact(look l m n q r).imp id λg=>g.1
 · refine(look l m n q r).imp id λ⟨_,g⟩=>?_;obtain⟨i,v⟩:=Ao g;constructor
   · cases b:m.dst with
     |none=>rw[b] at i;cases i
     |some a=>rw[b] at i;exact⟨a,rfl,L1 i⟩
   · intro t u j c;have:=DQ.1 v t (by simpa using u);obtain⟨s,w,f⟩:=G7 c;have:=IZ this j s (by rw[Array.getElem?_toList];exact w) f;rw[wJ] at this;exact Jj this
theorem cW{o:Oper}{a:List (Nat×Oper)}{b:List Nat}(c:∀p∈a,ops[p.1]? =some p.2)(d:P2 E ops.toList (DP ops.toList []) o a b=true):NA ops E o (KD a) b:=by
 obtain⟨f,g⟩:=Ao d;obtain⟨f,h⟩:=Ao f;obtain⟨g,i⟩:=Ao g;refine⟨f,?_,λo k=>?_,λl m n q r=>?_⟩
 · cases s:o.guard with
   |none=>rfl
   |some=>rw[s] at h;cases h
 · obtain⟨p,u,rfl⟩:=Jo.1 k;have:=Bq (DQ.1 i p u);omega
 · have v:=DQ.1 g l n;unfold mW at v;rw[CU,Array.getElem?_toList,q] at v;have v:(wg true (An (Gs l (a.map (·.1))) (Ia ops.toList (DP ops.toList []) l m)) (vS (kindOf E m.op) 1):Bool)=true:=v;rw[r] at v;obtain⟨w,x⟩:=Ao (show An (Gs l (a.map (·.1))) (Ia ops.toList (DP ops.toList []) l m)=true from v);obtain⟨p,u,y⟩:=xQ.1 (Fu.1 w);have b:=c p u;rw[y,q] at b;obtain⟨d,f⟩:=Ao x;refine⟨Jo.2 ⟨p,u,(wU.inj b).symm⟩,?_,?_⟩
   · cases s:m.dst with
     |none=>rw[s] at d;cases d
     |some h=>rw[s] at d;exact⟨h,rfl,L1 d⟩
   · intro t k j i;have:=DQ.1 f t (by simpa using k);obtain⟨g,n,r⟩:=G7 i;have:=IZ this j g (by rw[Array.getElem?_toList];exact n) r;rw[wJ] at this;exact Jj this
theorem Nr:∀{BG:Dr}{a:Option (Nat×Bool)}{b c d:List Nat},BG.iO ops→Yr E G ops.toList (DP ops.toList []) BG a b c d=true→VL ops E G BG a b c d
 |.nil,_,_,_,_,_,_=>trivial
 |.op f o g r,a,b,c,d,h,i=>by
  obtain⟨k,l,m⟩:=h;obtain⟨n,p⟩:=Ao (show An (An (Dn o.guard a) (An (Bm (Gs f c)) (aJ o c))) (An (wg (wj true (λ_ _ _=>false) g) (wg (P2 E ops.toList (DP ops.toList []) o g c) true (TD E ops.toList (DP ops.toList []) f g c (r.idx++d))) (vS (kindOf E o.op) 2)) (Yr E G ops.toList (DP ops.toList []) r a (f::b) (c++[f]) d))=true from i);obtain⟨q,s⟩:=Ao n;obtain⟨s,t⟩:=Ao s;obtain⟨u,v⟩:=Ao p;refine⟨k,GK q,λw=>?_,Zo t k,λx=>?_,λx=>?_,Nr m v⟩
  · rw[Fu.2 w] at s;cases s
  · have:vS (kindOf E o.op) 2=false:=by rw[DY];simp;omega
    rw[this] at u;cases g with
    |nil=>rfl
    |cons=>cases u
  · rw[x] at u;have u:(wg (P2 E ops.toList (DP ops.toList []) o g c) true (TD E ops.toList (DP ops.toList []) f g c (r.idx++d)):Bool)=true:=u;cases y:TD E ops.toList (DP ops.toList []) f g c (r.idx++d) with
    |true=>exact .inl (jP l y)
    |false=>rw[y] at u;exact .inr (cW l u)
 |.Mm j m x f g pk r,a,b,c,d,h,i=>by
  obtain⟨y,l,a0⟩:=h;obtain⟨n,p⟩:=Ao (show An (An (wz false (λo=>MH o m) (Cj ops.toList j)) (An (JR m j ops.toList 0) (An (Gs j c) (Gs j b)))) (An (An (Dn pk.guard a) (An (Iu G m x pk.op) (An (Bm (Gs g (c++f.idx))) (aJ pk (c++f.idx)))))
   (An (Yr E G ops.toList (DP ops.toList []) f (some (j,x)) [] c (g::r.idx++d)) (Yr E G ops.toList (DP ops.toList []) r a (g::b) (c++f.idx++[g]) d)))=true from i)
  obtain⟨q,s⟩:=Ao n;obtain⟨s,t⟩:=Ao s;obtain⟨t,u⟩:=Ao t;obtain⟨v,h⟩:=Ao p;obtain⟨m,a⟩:=Ao v;obtain⟨a,b⟩:=Ao a;obtain⟨b,c⟩:=Ao b;obtain⟨d,f⟩:=Ao h;refine⟨?_,L1 s,Fu.1 t,Fu.1 u,l,GK m,a,λw=>?_,Zo c l,Nr y d,Nr a0 f⟩
  · rw[CU,Array.getElem?_toList] at q;unfold Cz;cases k:ops[j]? with
    |none=>rw[k] at q;cases q
    |some o=>rw[k] at q;exact LK.1 q
  · rw[Fu.2 w] at b;cases b
theorem ey{a b c d:List Nat}{f:Nat}(g:a++b=c++f::d):(∃B',a=c++f::B')∨(∃A',c=a++A'∧b=A'++f::d):=by
 rcases List.append_eq_append_iff.1 g with⟨z,h,i⟩|⟨z,h,i⟩
 · exact .inr ⟨z,h,i⟩
 · cases z with
   |nil=>simp only[vi,xR] at h i;exact .inr ⟨[],by rw[h];simp,i.symm⟩
   |cons x z=>simp only[xU,ve.injEq] at i;exact .inl ⟨z,by rw[h,i.1]⟩
theorem N9:∀{BG:Dr}{a:Option (Nat×Bool)}{b c d:List Nat},VL ops E G BG a b c d→∀A' f g,BG.idx=A'++f::g→KS ops (Dy (c++A')) f
 |.nil,_,_,_,_,_,A',f,g,h=>by cases A'<;>cases h
 |.op x o i r,_,_,c,_,k,A',f,g,h=>by
  obtain⟨_,_,_,l,_,_,m⟩:=k;cases A' with
  |nil=>have h:x::r.idx=f::g:=h;cases h;rw[vi];exact l
  |cons n A'=>have h:x::r.idx=n::(A'++f::g):=h;obtain⟨rfl,p⟩:=ve.inj h;have:=N9 m A' f g p;rw[vp] at this;exact this
 |.Mm j q s t u pk r,_,_,c,_,k,A',f,g,h=>by
  obtain⟨_,_,_,_,_,_,_,_,l,v,m⟩:=k;rw[He] at h;rcases ey h with⟨B',w⟩|⟨A2,w,y⟩
  · exact N9 v A' f B' w
  · subst w;cases A2 with
    |nil=>cases y;rw[vi];exact l
    |cons n A2=>obtain⟨rfl,a⟩:=ve.inj y;have:=N9 m A2 f g a;simp only[vp,xU,xR] at this ⊢;exact this
theorem Bc.drawn{μ:Mu}{a:H}{b:World}(c:Bc μ a b)(n:Nat):Bc μ a { b with drawn:=n }∧BF μ a b μ a { b with drawn:=n }:=
 ⟨⟨c.fresh,c.dead,λd l f g=>(c.ob d l f g).world rfl,c.inj⟩,⟨.refl μ,vE _,λ_ _ _=>rfl,λ_ _ o=>o,⟨vE _,λ_ _ e=>⟨e,rfl⟩⟩,rfl,rfl,rfl⟩⟩
theorem tN{ro:Option Nat}(b:P.follows .mixedOrders=true)(c:Bt P E)(d:C4 P (CP E) G (λp=>p) call){g:List Nat}(h:Nm P E N G ops.toList g=true){Q:Exit→Act→World→Prop}{id:Nat}{μ:Mu}{f:FT}{i:H}{a:Act}{k:World}
 {K:FT→H→Prop} (fr:FR μ N D f a) (l:Bc μ i k) (m:DE μ G) (q:oV (UI E ops.toList g) (λBG=>E3 E call BG f i K))
 (r:∀s u w x y,FR s N D u x→Bc s w y→BF μ i k s w y→DE s G→K u w→Q .normal x y):(Code.region id ops true).wpIn (Fo ro) 0 P Q a k:=by
 obtain⟨BG,g,a0⟩:=HP q;unfold Nm at h;rw[cj,cj] at h;obtain⟨q,a1⟩:=Ao h;obtain⟨a1,h⟩:=Ao a1;rw[g] at h;obtain⟨h,a2⟩:=Ao h;have a3:Wf P E N G ops:=Axs (by simp) q a1;have q:=Nr (eU g) h;have g:∀h a1 a4,BG.idx=h++a1::a4→KS ops (Dy h) a1:=λh a1 a4 e=>by have:=N9 q h a1 a4 e;rwa [xR] at this
 have h:∀a1,a1<ops.size→a1∈BG.idx:=λa1 hi=>Fu.1 (DQ.1 a2 a1 (xO.2 (by rw[BU];simpa using hi)));obtain⟨a4,a2⟩:=l.drawn (k.drawn+1);refine wpIn_region_any b ?_;have l:DC ops (Dy []):=by intro a1 o e hi;simp[Dy] at hi
 have b:Good ops E call f K [] (λ_=>.undef) [] (BG.idx++[]) (λf i=>E3 E call BG f i K):=by refine NM a3 BG q l (λ_ i=>nomatch i) (λ_ _ e=>nomatch e) ?_;rw[xR];refine .mk λv u l q a5 a6=>.fin (.refl _ _) (λ_ i=>nomatch i) (by rw[vi];exact a5) a6
 rw[vi] at b;have h0:FS ops (λ_=>U.undef) f (Dy []) ops.size=f:=by
  have:∀n,FS ops (λ_=>U.undef) f (Dy []) n=f:=by
   intro n;induction n with
   |zero=>rfl
   |succ n l=>simp only[FS];rw[if_neg (by simp[Dy])];exact l
  exact this _
 cases b with
 |mk b=>
  obtain⟨v,A1,q,a5,a6,a7,tl⟩:=(b (λ_=>.undef) f i (.refl _ _) (λt=>.inr (by rw[h0])) a0).tail;rw[xR] at tl;have b:(λj=>(Array.replicate ops.size false).getD j false)=λ_=>false:=by funext j;rw[Array.getD_eq_getD_getElem?,Array.getElem?_replicate];split<;>rfl
  refine Ahr (f0:=f) a3 c d g h (λs u w x y a6 a0 a8 a9 b0=>r s u w x y a6 a0 (a2.trans a8) a9 b0) ops.size _ a _ (by simp) ?_ ?_
  · refine Nat.le_trans List.countP_le_length ?_;simp
  · rw[b];obtain⟨A',d,w,h,r,s,u,c3,c4,x,y,c7,c8⟩:=settle (P:=P) (Df:=μ) (h0:=i) (w0:={ k with drawn:=k.drawn+1 }) (S:=λ_=>false) (gs:=λ_=>none) a3 c g q.length (vE _) a5.symm (λa1 hi=>xm hi) (λa1 hi _=>.inl ⟨rfl,a7 a1 hi⟩) ⟨(λ_ _ e=>by cases e),(λ_ _ _ e=>by cases e)⟩ a4 (.refl _ _ _) tl;refine⟨⟨A',d,w,μ,h,r,(λa1 o e hi=>xm hi),(λa1 hi=>xm hi),?_,y,c7,m,c4,x,s,c8⟩⟩;have:FS ops d f (λ_=>false) ops.size=f:=by
     have:∀n,FS ops d f (λ_=>false) n=f:=by
      intro n;induction n with
      |zero=>rfl
      |succ n l=>simp only[FS];rw[if_neg (by simp)];exact l
     exact this _
    rw[this];exact fr
end
end Go.Den
