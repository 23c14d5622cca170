/-
 Proof.
-/
import Derived.Test.YtmgalljhidgnoaaGreatDoorDenA
import Derived.Test.YtmgalljhidgnoaaGreatDoorDenC
open Bool renaming rec → wg, and_eq_true → vK
open Nat renaming beq → vS, rec → vP, ble → vU, add → vN, sub → vQ, mul → vO, lor → xB, eq_of_beq_eq_true → vW, lt_of_lt_of_le → vZ
open Option renaming rec → wz
open List renaming rec → wj, mem_cons → vw, all_eq_true → wm, append_assoc → vp
noncomputable section
namespace Go.Den
abbrev FT:=Nat→U
abbrev CF:=Oh Prop FT
abbrev H:=Hp FT
abbrev KV:=U→H→Prop
def Aq(f:FT)(d:Nat)(v:U):FT:=λu=>wg (f u) v (vS u d)
def Ab(l:List U):FT:=λt=>wz .undef (λv=>v) (Cj l t)
def Ane:FI where
 T:=FT
 init l:=Ab l
 get f t:=f t
 set f t v:=Aq f t v
 force f k:=k f
abbrev CP(E:Env):Cx Prop:=⟨E,Ane,False⟩
def fN(n:Nat)(K:Nat→Prop):Prop:=vP False (λm _=>K m) (Nat.succ n)
def fI(n:Int)(K:Int→Prop):Prop:=Int.rec (λm=>fN m (λm=>K (.ofNat m))) (λm=>fN m (λm=>K (.negSucc m))) n
def Bo(n:Int)(K:Nat→Prop):Prop:=Int.rec (λm=>K m) (λ_=>False) n
def AM(M:(Bool→H→Prop)→Prop)(k:Bool→H→Prop):Prop:=M k
def oV{a:Type}(o:Option a)(K:a→Prop):Prop:=wz False K o
def oK(o:Option (U×H))(k:KV):Prop:=wz False (λp=>Prod.rec (λv h=>BB v (λv=>Hp.rec (λm n=>FK m (λm=>k v ⟨m,n⟩)) h)) p) o
def V(t:Bool)(A B:Prop):Prop:=wg B A t
def gate(w t:Bool)(A B:Prop):Prop:=wg (wg A B t) (wg B A t) w
def FG(l c i:Nat)(K:Nat→Prop):Prop:=wg False (fN (DD c i) K) (vU (vN i 1) l)
def Lk(l c lo hi:Nat)(K:Nat→Nat→Prop):Prop:=wg False (fN (vQ hi lo) (λn=>fN (Me c lo hi) (λd=>K n d))) (An (vU lo hi) (vU hi l))
def Nk(l c m d:Nat)(K:Nat→Nat→Prop):Prop:=wg False (fN (vN l m) (λn=>fN (Nu l c d) (λe=>K n e))) (vU (vN l m) (intMax .i64))
def qD(l c m d:Nat):Bool:=I8 (EC l c) (EC m d)
def gY(k:IntKind)(a b:Int)(K:Int→Prop):Prop:=wg (fI (wrap k (a.tdiv b)) K) False (AN b (.ofNat 0))
def U5(a b:Int)(K:Int→Prop):Prop:=wg (fI (a.tmod b) K) False (AN b (.ofNat 0))
def Alm(k:IntKind)(a b:Int)(K:Int→Prop):Prop:=Bo b (λb=>fI (wrap k (a*2^(min b k.bits))) K)
def Alp(k:IntKind)(a b:Int)(K:Int→Prop):Prop:=Bo b (λb=>fI (a.fdiv (2^(min b k.bits))) K)
def Aqb(a b:Int)(K:Nat→Nat→Prop):Prop:=Bo a (λa=>Bo b (λb=>K a b))
def Zf(g:Nat→Nat→Nat)(k:IntKind)(a b:Int)(K:Int→Prop):Prop:=Aqb a b (λa b=>wg False (fN (g a b) (λn=>K (.ofNat n))) (An (vU a (intMax k)) (vU b (intMax k))))
def low(n:Nat):Nat:=(λ(_:Nat→(Nat→Prop)→Prop)(_:Int→(Int→Prop)→Prop)(_:((Bool→H→Prop)→Prop)→(Bool→H→Prop)→Prop)(_:Nat→Nat→Nat→(Nat→Prop)→Prop)(_:Nat→Nat→Nat→Nat→(Nat→Nat→Prop)→Prop)(_:Nat→Nat→Nat→Nat→(Nat→Nat→Prop)→Prop)
 (_:IntKind→Int→Int→(Int→Prop)→Prop) (_:IntKind→Int→Int→(Int→Prop)→Prop) (_:IntKind→Int→Int→(Int→Prop)→Prop) (_:(Nat→Nat→Nat)→IntKind→Int→Int→(Int→Prop)→Prop) (_:Option (U×H)→KV→Prop) (_:H→P→Nat→Prop→(U→Prop)→Prop) (_:H→P→Nat→List U→Prop→(H→Prop)→Prop) (_:H→Ob FT→(P→H→Prop)→Prop)=>n)
 fN fI AM FG Lk Nk gY Alm Alp Zf oK (λh b o x k=>h.EP b o x k) (λh b o l x k=>h.Ew b o l x k) (λh o k=>h.Bu o k)
def Av:Prop:=(λ(_:Nat)=>False) (low 0)
def ME(a b:IntKind):Bool:=match a with
 |.i8=>match b with|.i8=>true|_=>false
 |.i16=>match b with|.i16=>true|_=>false
 |.i32=>match b with|.i32=>true|_=>false
 |.i64=>match b with|.i64=>true|_=>false
 |.u8=>match b with|.u8=>true|_=>false
 |.u16=>match b with|.u16=>true|_=>false
 |.u32=>match b with|.u32=>true|_=>false
 |.u64=>match b with|.u64=>true|_=>false
def Fa(b:Bool)(K:Prop):Prop:=wg Av K b
section
def Ar(k:IntKind)(v:U)(K:Int→Prop):Prop:=U.rec (motive_1:=λ_=>Prop) (motive_2:=λ_=>Unit)
 (λ_=>Av) (λj n=>wg Av (K n) (ME k j)) (λ_ _=>Av) Av (λ_ _=>Av) Av (λ_ _ _ _ _=>Av) Av (λ_=>Av) (λ_ _ _ _ _=>Av) Av (λ_ _ _=>Av) Av (λ_ _=>Av) (λ_ _=>Av) Av () (λ_ _ _ _=>()) v
def UU(v:U)(K:Int→Prop):Prop:=U.rec (motive_1:=λ_=>Prop) (motive_2:=λ_=>Unit)
 (λ_=>Av) (λ_ n=>K n) (λ_ _=>Av) Av (λ_ _=>Av) Av (λ_ _ _ _ _=>Av) Av (λ_=>Av) (λ_ _ _ _ _=>Av) Av (λ_ _ _=>Av) Av (λ_ _=>Av) (λ_ _=>Av) Av () (λ_ _ _ _=>()) v
def Be(v:U)(K:Bool→Prop):Prop:=U.rec (motive_1:=λ_=>Prop) (motive_2:=λ_=>Unit)
 (λb=>K b) (λ_ _=>Av) (λ_ _=>Av) Av (λ_ _=>Av) Av (λ_ _ _ _ _=>Av) Av (λ_=>Av) (λ_ _ _ _ _=>Av) Av (λ_ _ _=>Av) Av (λ_ _=>Av) (λ_ _=>Av) Av () (λ_ _ _ _=>()) v
def Bv(v:U)(K:Nat→Nat→Prop):Prop:=U.rec (motive_1:=λ_=>Prop) (motive_2:=λ_=>Unit)
 (λ_=>Av) (λ_ _=>Av) (λl c=>K l c) Av (λ_ _=>Av) Av (λ_ _ _ _ _=>Av) Av (λ_=>Av) (λ_ _ _ _ _=>Av) Av (λ_ _ _=>Av) Av (λ_ _=>Av) (λ_ _=>Av) Av () (λ_ _ _ _=>()) v
def OW(v:U)(K:P→Nat→Prop):Prop:=U.rec (motive_1:=λ_=>Prop) (motive_2:=λ_=>Unit)
 (λ_=>Av) (λ_ _=>Av) (λ_ _=>Av) Av (λb o=>K b o) Av (λ_ _ _ _ _=>Av) Av (λ_=>Av) (λ_ _ _ _ _=>Av) Av (λ_ _ _=>Av) Av (λ_ _=>Av) (λ_ _=>Av) Av () (λ_ _ _ _=>()) v
def EX(v:U)(K:List U→Prop):Prop:=U.rec (motive_1:=λ_=>Prop) (motive_2:=λ_=>Unit)
 (λ_=>Av) (λ_ _=>Av) (λ_ _=>Av) Av (λ_ _=>Av) Av (λ_ _ _ _ _=>Av) Av (λ_=>Av) (λ_ _ _ _ _=>Av) Av (λ_ _ _=>Av) Av (λcs _=>K cs) (λ_ _=>Av) Av () (λ_ _ _ _=>()) v
def asT(v:U)(K:List U→Prop):Prop:=U.rec (motive_1:=λ_=>Prop) (motive_2:=λ_=>Unit)
 (λ_=>Av) (λ_ _=>Av) (λ_ _=>Av) Av (λ_ _=>Av) Av (λ_ _ _ _ _=>Av) Av (λ_=>Av) (λ_ _ _ _ _=>Av) Av (λ_ _ _=>Av) Av (λ_ _=>Av) (λcs _=>K cs) Av () (λ_ _ _ _=>()) v
def pg(v:U)(K:Fn→List U→List U→Prop):Prop:=U.rec (motive_1:=λ_=>Prop) (motive_2:=λ_=>Unit)
 (λ_=>Av) (λ_ _=>Av) (λ_ _=>Av) Av (λ_ _=>Av) Av (λ_ _ _ _ _=>Av) Av (λ_=>Av) (λfn a c _ _=>K fn a c) Av (λ_ _ _=>Av) Av (λ_ _=>Av) (λ_ _=>Av) Av () (λ_ _ _ _=>()) v
def PK(o:Ob FT)(K:(Nat→U)→OX→LoopState→AX→Prop):Prop:=Ob.rec Av (λ_ _ _ _ _=>Av) (λ_ _=>Av) (λ_ _=>Av) (λ_ _ _=>Av) (λf a b c=>K f a b c) (λ_ _ _ _=>Av) o
def one(v:U)(K:Prop):Prop:=U.rec (motive_1:=λ_=>Prop) (motive_2:=λ_=>Unit)
 (λ_=>K) (λ_ _=>K) (λ_ _=>K) K (λ_ _=>K) K (λ_ _ _ _ _=>K) K (λ_=>K) (λ_ _ _ _ _=>K) K (λ_ _ _=>K) K (λ_ _=>Av) (λ_ _=>Av) Av () (λ_ _ _ _=>()) v
def Bz(v:U)(K:Nat→Prop):Prop:=U.rec (motive_1:=λ_=>Prop) (motive_2:=λ_=>Unit)
 (λ_=>Av) (λ_ _=>Av) (λ_ _=>Av) Av (λ_ _=>Av) (K 0) (λ_ _ n _ _=>K n) Av (λ_=>Av) (λ_ _ _ _ _=>Av) Av (λ_ _ _=>Av) Av (λ_ _=>Av) (λ_ _=>Av) Av () (λ_ _ _ _=>()) v
def A7(sz i:Nat)(v:U)(K:U→Prop):Prop:=U.rec (motive_1:=λ_=>Prop) (motive_2:=λ_=>Unit)
 (λ_=>Av) (λ_ _=>Av) (λ_ _=>Av) Av (λ_ _=>Av) Av (λb o n z _=>wg Av (fN (vN o (vO i sz)) (λq=>K (.ptr b q))) (An (vU (vN i 1) n) (vS sz z))) Av (λ_=>Av) (λ_ _ _ _ _=>Av) Av (λ_ _ _=>Av) Av (λ_ _=>Av) (λ_ _=>Av) Av () (λ_ _ _ _=>()) v
end
def Ac(o:Nat)(v:U)(K:U→Prop):Prop:=OW v (λb q=>fN (vN q o) (λq=>K (.ptr b q)))
def Z(a:U)(h:H)(K:U→Prop):Prop:=OW a (λb o=>h.EP b o Av K)
def A3(n:Nat)(a:U)(h:H)(K:U→Prop):Prop:=OW a (λb o=>h.ES b o n Av (λl=>K (.agg l)))
def BC(a v:U)(h:H)(K:H→Prop):Prop:=OW a (λb o=>one v (h.Ew b o [v] Av K))
def CV(n:Nat)(a v:U)(h:H)(K:H→Prop):Prop:=OW a (λb o=>EX v (λcs=>wg Av (h.Ew b o cs Av K) (An (vS (len cs) n) (vU 1 n))))
def Amx(o:Nat)(v:U)(K:U→Prop):Prop:=EX v (λcs=>oV (Cj cs o) K)
def Apq(o n:Nat)(v:U)(K:U→Prop):Prop:=EX v (λcs=>K (.agg (FW n (Ho o cs))))
def ext(i:Nat)(v:U)(K:U→Prop):Prop:=asT v (λcs=>oV (Cj cs i) K)
def Als(o:Ob FT)(K:P→Nat→List Nat→Nat→Prop):Prop:=Ob.rec Av (λ_ _ _ _ _=>Av) (λ_ _=>Av) (λ_ _=>Av) (λ_ _ _=>Av) (λ_ _ _ _=>Av) (λa b c d=>K a b c d) o
abbrev Ow:=U×U×Nat
def PB(n:Nat)(l:List Nat):Bool:=wj false (λx _ a=>wg a true (vS x n)) l
def leftOf(a:List Nat)(b:List Ow):List Ow:=wj [] (λe _ c=>wg (e::c) c (PB e.2.2 a)) b
def VK(a:Nat)(l:List Ow):Bool:=wj true (λe _ b=>wg false b (vU (vN e.2.2 1) a)) l
def Q3(a:Nat)(l:List Ow):Bool:=wj false (λe _ b=>wg b true (vU (vN e.2.2 1) a)) l
def NU{a:Type}(l:List a):Bool:=wj true (λ_ _ _=>false) l
def VM(K:Ow→Prop)(l:List Ow):Prop:=wj True (λe r a=>wj (K e) (λ_ _ _=>And (K e) a) r) l
def B7(a b:P)(c:Nat)(d:List Nat)(f:List Ow)(g:Nat)(h:H)(i:KV):Prop:=
 wj (i (.tuple [.bool false]) h) (λe r _=>VM (λe=>h.Gv a (.Hq b c (Eh d [e.2.2]) g) (λh=>i (.tuple [.bool true,e.1,e.2.1]) h)) (e::r)) (leftOf d f)
def dJ(a:U)(b:H)(c:KV):Prop:=OW a (λd o=>wg Av (Als (b.at d) (λf g h i=>oV (EJ (b.at f)) (λp=>wg Av (B7 d f g h p.1 p.2 b c)
 (An (VK g (leftOf h p.1)) (wg (wg (Q3 i p.1) true (NU p.1)) true (NU h)))))) (vS o 0))
section
variable(E:Env)
def eval'(o:Operand)(f:FT):U:=eval (CP E) o f
def coD(d:TypeDesc)(v:U)(K:U→Prop):Prop:=match d with
 |.int k=>Ar k v (λn=>K (.int k n))
 |.bool=>Be v (λb=>K (.bool b))
 |.string=>Bv v (λl c=>K (.str l c))
 |_=>K v
def PV(t:TypeId)(v:U)(K:U→Prop):Prop:=match E.ty t with
 |some a=>coD a.desc v K
 |none=>K v
def bI(op:BinOp)(k:IntKind)(a b:Int)(K:U→Prop):Prop:=match op with
 |.add=>fI (wrap k (AW a b)) (λn=>K (.int k n))
 |.sub=>fI (wrap k (EU a b)) (λn=>K (.int k n))
 |.mul=>fI (wrap k (a*b)) (λn=>K (.int k n))
 |.eql=>K (.bool (AN a b))
 |.neq=>K (.bool (Bm (AN a b)))
 |.lss=>K (.bool (Ba a b))
 |.leq=>K (.bool (CJ a b))
 |.gtr=>K (.bool (Ba b a))
 |.geq=>K (.bool (CJ b a))
 |.quo=>gY k a b (λn=>K (.int k n))
 |.rem=>U5 a b (λn=>K (.int k n))
 |.shl=>Alm k a b (λn=>K (.int k n))
 |.shr=>Alp k a b (λn=>K (.int k n))
 |.and=>Zf Nat.land k a b (λn=>K (.int k n))
 |.or=>Zf xB k a b (λn=>K (.int k n))
 |.xor=>Zf Nat.xor k a b (λn=>K (.int k n))
 |.andNot=>False
def bS(op:BinOp)(l c m d:Nat)(K:U→Prop):Prop:=match op with
 |.add=>Nk l c m d (λn e=>K (.str n e))
 |.eql=>K (.bool (CL l c m d))
 |.neq=>K (.bool (Bm (CL l c m d)))
 |.lss=>K (.bool (qD l c m d))
 |.geq=>K (.bool (Bm (qD l c m d)))
 |_=>False
def bK(op:BinOp):Bool:=match op with
 |.shl=>true
 |.shr=>true
 |_=>false
def Aav(op:BinOp)(k:IntKind)(y:U)(K:Int→Prop):Prop:=match bK op with
 |true=>UU y K
 |false=>Ar k y K
def oX(op:BinOp)(t:TypeId)(d:TypeDesc)(x y:U)(K:U→Prop):Prop:=match d with
 |.int k=>Ar k x (λa=>Aav op k y (λb=>bI op k a b K))
 |.string=>Bv x (λl c=>Bv y (λm d=>bS op l c m d K))
 |_=>oV (Dh E op t x y) K
def Y5(op:BinOp)(t:TypeId)(x a:U)(K:U→Prop):Prop:=match E.ty t with
 |some b=>oX E op t b.desc x a K
 |none=>False
def Vj(op:BinOp)(t:TypeId)(a b:Operand)(x c:U)(K:U→Prop):Prop:=wg (Y5 E op t x c K) (oV (Re E op t x c) K) (S0 E op t a b)
def jU(op:UnOp)(x:U)(K:U→Prop):Prop:=match op with
 |.not=>Be x (λb=>K (.bool (Bm b)))
 |op=>oV (Z7 op x) K
def OE(t:TypeId)(a:U)(h:H)(K:U→Prop):Prop:=match E.ty t with
 |some i=>match i.agg with
  |true=>A3 i.size a h K
  |false=>Z a h K
 |none=>False
def W3(t:TypeId)(a v:U)(h:H)(K:H→Prop):Prop:=match E.ty t with
 |some i=>match i.agg with
  |true=>CV i.size a v h K
  |false=>match vS i.size 1 with
   |true=>BC a v h K
   |false=>False
 |none=>False
def YZ(t:TypeId)(a:Nat):Option (Nat×Nat×Bool):=match E.ty t with
 |some b=>match b.desc with
  |.struct c=>match HU c.toList a with
   |some p=>match E.ty p.2 with
    |some d=>some (p.1,d.size,d.agg)
    |none=>none
   |none=>none
  |_=>none
 |none=>none
def N3(t:TypeId)(x:U)(i:Nat)(K:U→Prop):Prop:=match YZ E t i with
 |some p=>match p.2.2 with
  |true=>Apq p.1 p.2.1 x K
  |false=>Amx p.1 x K
 |none=>False
def Ls(t:TypeId)(x:U)(i:Nat)(K:U→Prop):Prop:=match LJ E t i with
 |some o=>Ac o x K
 |none=>False
def Rf(v:U)(K:Nat→Prop):Prop:=UU v (λn=>Bo n K)
def Hc(t:TypeId)(x a:U)(b:H)(c:KV):Prop:=match Jb E t with
 |some e=>match E.ty e with
  |some d=>Rf a (λn=>A7 d.size n x (λv=>c v b))
  |none=>False
 |none=>oK (Ef E t x (Bf a) b) c
def IN(t:TypeId)(x a:U)(b:H)(c:KV):Prop:=match E.ty t with
 |some d=>match isStr d.desc with
  |true=>Bv x (λl f=>Rf a (λn=>FG l f n (λg=>c (.int .u8 (.ofNat g)) b)))
  |false=>oK (Hl E t x (Bf a) b) c
 |none=>False
def Sl(a:List TypeId)(b:TypeDesc)(x:U)(c:H)(d:KV):Prop:=match b with
 |.string=>Bv x (λl _=>d (.int .i64 (.ofNat l)) c)
 |.slice _=>Bz x (λn=>d (.int .i64 (.ofNat n)) c)
 |_=>oK (Hr E a x c) d
def Un(a:List TypeId)(x:U)(b:H)(c:KV):Prop:=match Cj a 0 with
 |some t=>match E.ty t with
  |some d=>Sl E a d.desc x b c
  |none=>False
 |none=>False
def F4(b:Builtin)(a:List TypeId)(c:List U)(d:H)(f:KV):Prop:=match b with
 |.len=>match c with
  |[x]=>Un E a x d f
  |_=>False
 |b=>oK (AB E b a c d) f
def C8(t:TypeId):Bool:=match E.ty t with
 |some a=>HF a.desc
 |none=>false
def NH(a b:TypeId)(c:TypeDesc)(x:U)(d:H)(f:KV):Prop:=match c with
 |.int g=>match C8 E a with
  |true=>UU x (λn=>fI (wrap g n) (λn=>f (.int g n) d))
  |false=>oK (D4 E d a b x) f
 |_=>oK (D4 E d a b x) f
def JI(a b:TypeId)(x:U)(c:H)(d:KV):Prop:=match E.ty b with
 |some f=>NH E a b f.desc x c d
 |none=>False
def Uz(o:Option U)(d:Nat)(K:Nat→Prop):Prop:=match o with
 |some v=>Rf v K
 |none=>K d
def slice3(a:H)(t:TypeId)(x:U)(lo hi b:Option (Option Nat)):Option (U×H):=wz none (λc=>C3 a (FO E a t x lo hi c)) (maxOf b)
def G0(t:TypeId)(x:U)(lo hi a:Option U)(b:H)(c:KV):Prop:=match E.ty t with
 |some d=>match isStr d.desc with
  |true=>match a with
   |none=>Bv x (λl f=>Uz hi l (λhi=>Uz lo 0 (λlo=>Lk l f lo hi (λn g=>c (.str n g) b))))
   |some _=>False
  |false=>oK (slice3 E b t x (lo.map Bf) (hi.map Bf) (a.map Bf)) c
 |none=>False
def WZ(e:TypeId)(h:H)(k:KV):Prop:=match E.ty e with
 |some i=>h.Bu (rowOf e i.zero) (λb h=>k (.ptr b 0) h)
 |none=>False
def Ox(t:TypeId)(x:U)(a:H)(b:KV):Prop:=match E.ty t with
 |some c=>match isIface c.desc with
  |true=>False
  |false=>b (.iface t x) a
 |none=>False
def gU(e:TypeId)(v:U)(h:H)(k:KV):Prop:=match E.ty e with
 |some i=>match i.agg with
  |true=>EX v (λcs=>wg Av (h.Bu (rowOf e cs) (λb h=>k (.ptr b 0) h)) (vU 1 (len cs)))
  |false=>one v (h.Bu (rowOf e [v]) (λb h=>k (.ptr b 0) h))
 |none=>False
def Aak(a:CF)(b:U)(c:List U)(d:H)(f:KV):Prop:=HZ (CP E) a b c d f
def inv2(a:CF)(b:U)(c:String)(d:List U)(f:H)(g:KV):Prop:=O9 (CP E) a b c d f g
def D7(E:Env)(f:FT)(l:List Operand):List U:=wj [] (λx _ a=>eval' E x f::a) l
def Ck(o:Op)(b:CF)(f:FT)(c:H)(d:KV):Prop:=match o with
 |.move x=>d (eval' E x f) c
 |.assign x=>d (eval' E x f) c
 |.alloc e=>WZ E e c d
 |.box e x=>gU E e (eval' E x f) c d
 |.load t a=>OE E t (eval' E a f) c (λv=>d v c)
 |.store t a x=>W3 E t (eval' E a f) (eval' E x f) c (λc=>d .undef c)
 |.binOp op t x g _=>Vj E op t x g (eval' E x f) (eval' E g f) (λv=>d v c)
 |.unOp op _ x=>jU op (eval' E x f) (λv=>d v c)
 |.convert h i x=>JI E h i (eval' E x f) c d
 |.makeInterface t x=>Ox E t (eval' E x f) c d
 |.slice t x lo hi j=>G0 E t (eval' E x f) (lo.map (λx=>eval' E x f)) (hi.map (λx=>eval' E x f)) (j.map (λx=>eval' E x f)) c d
 |.fieldAddr t x k=>Ls E t (eval' E x f) k (λv=>d v c)
 |.field t x k=>N3 E t (eval' E x f) k (λv=>d v c)
 |.indexAddr t x k=>Hc E t (eval' E x f) (eval' E k f) c d
 |.index t x k=>IN E t (eval' E x f) (eval' E k f) c d
 |.extract x k=>ext k (eval' E x f) (λv=>d v c)
 |.call l=>match l.callee with
  |.builtin m=>F4 E m l.argTypes.toList (D7 E f l.args.toList) c d
  |.invoke r n=>inv2 E b (eval' E r f) n (D7 E f l.args.toList) c d
  |.value v=>Aak E b (eval' E v f) (D7 E f l.args.toList) c d
 |.makeFunc fn a m=>d (.func fn (D7 E f a.toList) (D7 E f m.toList)) c
 |o=>exec o (CP E) b f c d
def dU(o:Op)(a:CF)(f:FT)(b:H)(c:KV):Prop:=match o with
 |.next x d=>match d with
  |false=>dJ (eval' E x f) b c
  |true=>Ck E (.next x true) a f b c
 |o=>Ck E o a f b c
end
inductive J0 where
 |nil
 |op (o:Oper) (rest:J0)
 |Mm (j:Nat) (gd:Tmp) (want:Bool) (body:J0) (pk:Oper) (rest:J0)
def J0.flat:J0→List Oper
 |.nil=>[]
 |.op o r=>o::r.flat
 |.Mm _ _ _ b pk r=>b.flat++pk::r.flat
def BS(f:FT)(d:Option Tmp)(v:U):FT:=match d with
 |some d=>Aq f d v
 |none=>f
def My(l:List Oper)(f:FT):FT:=match l with
 |[]=>f
 |o::l=>My l (BS f o.dst .top)
def iv(o:Op):Option (Operand×Operand×Operand):=match o with
 |.pick c a b=>some (c,a,b)
 |_=>none
def Cw(w:Bool)(x y:Operand):Operand:=wg y x w
def Aeh (E : Env) (w : Bool) (a : List Oper) (pk : Oper) (t : Bool) (b c : FT → H → (FT → H → Prop) → Prop) (f : FT) (d : H) (K : FT → H → Prop) : Prop := match iv pk.op with
  | none => False
  | some (_, x, g) => AM (λh => gate w t
        (b f d (λf d => Be (eval' E (Cw w x g) f) (λv => h v d)))
        (Be (eval' E (Cw w g x) f) (λv => h v d)))
        (λv d => c (BS (My a f) pk.dst (.bool v)) d K)
def DL(E:Env)(a:CF)(BG:J0):FT→H→(FT→H→Prop)→Prop:=J0.rec (motive:=λ_=>FT→H→(FT→H→Prop)→Prop)
 (λf b K=>K f b)
 (λo _ c f b K=>dU E o.op a f b (λv b=>PV E o.type v (λv=>c (BS f o.dst v) b K)))
 (λ_ d w g pk _ h i f b K=>Be (f d) (λt=>Aeh E w g.flat pk t h i f b K)) BG
def Dn(a b:Option (Nat×Bool)):Bool:=match a with
 |none=>match b with
  |none=>true
  |some _=>false
 |some (i,v)=>match b with
  |none=>false
  |some (j,w)=>and (vS i j) (beqB' v w)
where beqB' (v w:Bool):Bool:=match v with
 |true=>w
 |false=>match w with
  |true=>false
  |false=>true
def iX(a:List Oper)(b:Option (Nat×Bool))(j:Nat):Option Tmp:=wz none (λo=>wg none o.dst (Dn o.guard b)) (Cj a j)
abbrev XT:=Option (Nat×Bool)→List Oper→J0×List Oper
def L4(a:List Oper)(b:XT):XT:=λc l=>wj (.nil,[])
 (λo d _=>wg
  (wz (.nil,o::d) (λp=>wz (.nil,o::d) (λf=>
   Prod.rec (λg r=>wj (.nil,o::d) (λpk h _=>Prod.rec (λq r=>(.Mm p.1 f p.2 g pk q,r)) (b c h)) r) (b (some p) (o::d))) (iX a c p.1)) o.guard)
  (Prod.rec (λq r=>(.op o q,r)) (b c d)) (Dn o.guard c)) l
def EN(a:List Oper)(n:Nat):XT:=vP (motive:=λ_=>XT) (λ_ l=>(.nil,l)) (λ_ b=>L4 a b) n
def ML(a:List Oper):Option J0:=Prod.rec (λq r=>wj (some q) (λ_ _ _=>none) r) (EN a (vN (vO 2 (len a)) 2) none a)
def allEq(r:U→U→Bool)(a:List U):List U→Bool:=wj (motive:=λ_=>List U→Bool) (λb=>wj true (λ_ _ _=>false) b) (λx _ c b=>wj false (λd b _=>An (r x d) (c b)) b) a
def Aed(x y:Fn):Bool:=match x with
 |.func i=>match y with|.func j=>vS i j|_=>false
 |_=>false
def bZ(r:U→U→Bool)(x b:U):Bool:=match x with
 |.bool a=>match b with|.bool c=>No a c|_=>false
 |.int d a=>match b with|.int j c=>An (ME d j) (AN a c)|_=>false
 |.str l g=>match b with|.str h i=>An (vS l h) (vS g i)|_=>false
 |.Bn=>match b with|.Bn=>true|_=>false
 |.ptr a k=>match b with|.ptr c j=>An (P.beq a c) (vS k j)|_=>false
 |.Af=>match b with|.Af=>true|_=>false
 |.slice a k n z t=>match b with|.slice c j h m o=>An (An (P.beq a c) (vS k j)) (An (An (vS n h) (vS z m)) (No t o))|_=>false
 |.GH=>match b with|.GH=>true|_=>false
 |.map a=>match b with|.map c=>P.beq a c|_=>false
 |.func f a g=>match b with|.func p c i=>An (Aed f p) (An (allEq r a c) (allEq r g i))|_=>false
 |.IK=>match b with|.IK=>true|_=>false
 |.iface t v=>match b with|.iface o m=>An (vS t o) (r v m)|_=>false
 |.FC=>match b with|.FC=>true|_=>false
 |.agg q=>match b with|.agg s=>allEq r q s|_=>false
 |.tuple q=>match b with|.tuple s=>allEq r q s|_=>false
 |_=>false
def E6(n:Nat):U→U→Bool:=vP (λ_ _=>false) (λ_ a=>bZ a) n
def BE(x y:U)(A:Prop):Prop:=wg Av A (E6 4 x y)
section
variable(E:Env)
def CZ(p:TypeDesc→Bool)(t:TypeId):Bool:=match E.ty t with
 |some a=>p a.desc
 |none=>false
def Ik(d:TypeDesc):Bool:=match d with
 |.slice _=>true
 |_=>false
def EA(d:TypeDesc):Bool:=match d with
 |.slice _=>true
 |.string=>true
 |_=>false
def kindOf(o:Op):Nat:=match o with
 |.move _=>0
 |.assign _=>0
 |.binOp ..=>0
 |.unOp ..=>0
 |.fieldAddr ..=>0
 |.field ..=>0
 |.extract ..=>0
 |.makeInterface ..=>0
 |.makeFunc ..=>0
 |.index ..=>0
 |.indexAddr ..=>0
 |.nilCheck _=>0
 |.build ..=>0
 |.pick ..=>0
 |.slice t _ _ _ _=>wg 1 0 (CZ E EA t)
 |.convert s d _=>wg (wg 1 2 (CZ E Ik d)) 0 (An (C8 E s) (C8 E d))
 |.load ..=>1
 |.lookup ..=>1
 |.call c=>match c.callee with
  |.builtin b=>match b with
   |.len=>match c.argTypes.toList with
    |t::_=>wg 1 0 (CZ E EA t)
    |[]=>1
   |.cap=>1
   |.unsafeSliceData=>1
   |.min=>1
   |.max=>1
   |_=>2
  |_=>2
 |_=>2
inductive Dr where
 |nil
 |op (i:Nat) (o:Oper) (rl:List (Nat×Oper)) (rest:Dr)
 |Mm (j:Nat) (gd:Tmp) (want:Bool) (body:Dr) (ip:Nat) (pk:Oper) (rest:Dr)
abbrev bP:=Nat×Oper×List (Nat×Oper)
def KD(l:List (Nat×Oper)):List Oper:=wj [] (λp _ a=>p.2::a) l
abbrev QX:=Option (Nat×Bool)→List bP→Dr×List bP
def JC(a:List Oper)(b:QX):QX:=λc l=>wj (.nil,[])
 (λo d _=>wg
  (wz (.nil,o::d) (λp=>wz (.nil,o::d) (λf=>
   Prod.rec (λg r=>wj (.nil,o::d) (λpk h _=>Prod.rec (λq r=>(.Mm p.1 f p.2 g pk.1 pk.2.1 q,r)) (b c h)) r) (b (some p) (o::d))) (iX a c p.1)) o.2.1.guard)
  (Prod.rec (λq r=>(.op o.1 o.2.1 o.2.2 q,r)) (b c d)) (Dn o.2.1.guard c)) l
def Ed(a:List Oper)(n:Nat):QX:=vP (motive:=λ_=>QX) (λ_ l=>(.nil,l)) (λ_ b=>JC a b) n
def HM(a:CF)(b:List Oper)(f:FT)(c:H)(d:Prop):Prop:=wj d (λo _ g=>Ck E o.op a f c (λv _=>PV E o.type v (λv=>BE v (wz .undef f o.dst) g))) b
def Dr.IF(BG:Dr):List (Option Tmp):=Dr.rec [] (λ_ o _ _ a=>o.dst::a) (λ_ _ _ _ _ pk _ b c=>Eh b (pk.dst::c)) BG
def Km(l:List (Option Tmp))(f:FT):FT:=wj (motive:=λ_=>FT→FT) (λf=>f) (λa _ b f=>b (BS f a .top)) l f
def qw (a : Bool) (b : List (Option Tmp)) (pk : Oper) (t : Bool) (c d : FT → H → (FT → H → Prop) → Prop) (f : FT) (g : H) (K : FT → H → Prop) : Prop := match iv pk.op with
  | none => False
  | some (_, x, h) => AM (λi => gate a t
        (c f g (λf g => Be (eval' E (Cw a x h) f) (λv => i v g)))
        (Be (eval' E (Cw a h x) f) (λv => i v g)))
        (λv g => d (BS (Km b f) pk.dst (.bool v)) g K)
def E3(a:CF)(BG:Dr):FT→H→(FT→H→Prop)→Prop:=Dr.rec (motive:=λ_=>FT→H→(FT→H→Prop)→Prop)
 (λf b K=>K f b)
 (λ_ o c _ d f b K=>Ck E o.op a f b (λv b=>PV E o.type v (λv=>HM E a (KD c) (BS f o.dst v) b (d (BS f o.dst v) b K))))
 (λ_ g h i _ pk _ j k f b K=>Be (f g) (λt=>qw E h i.IF pk t j k f b K)) BG
end
def J4(acc:List Nat)(es:List Edge):Nat:=wj 0 (λe _ a=>wg a (xB a (xB (Nat.shiftLeft 1 e.on) (wz 0 (λb=>b) (Cj acc e.on)))) (Region.binds .any e)) es
def DP(l:List Oper):List Nat→List Nat:=wj (motive:=λ_=>List Nat→List Nat) (λa=>a) (λo _ b a=>b (Eh a [J4 a o.after.toList])) l
def bit(m i:Nat):Bool:=vS (Nat.mod (Nat.shiftRight m i) 2) 1
def UE(a:Env)(_ms:List Nat)(m:Nat)(g:Option (Nat×Bool))(done:List (Nat×Oper)):List (Nat×Oper):=wj [] (λp _ b=>wg b (p::b) (An (vS (kindOf a p.2.op) 1) (An (wg (Dn p.2.guard g) true (Dn p.2.guard none)) (Bm (bit m p.1))))) done
def KJ(o:Op):Bool:=match o with
 |.alloc _=>true
 |.makeMap _ r=>match r with
  |none=>true
  |some _=>false
 |.makeSlice _ _ _=>true
 |.buildSlice _ _ _=>true
 |.box _ _=>true
 |_=>false
def dM(o:Op)(a:List Nat)(b:Nat)(c:List Nat):Nat:=wg (wz 0 (λd=>d) (Cj a b)) (wg 0 (wz 0 (λd=>d) (Cj a b)) (wj true (λj _ f=>wg false f (bit (wz 0 (λd=>d) (Cj a j)) b)) c)) (KJ o)
def triples(a:Env)(b:List Oper)(c d:List Nat):List (Nat×Oper)→List bP:=wj (motive:=λ_=>List (Nat×Oper)→List bP) (λ_=>[])
 (λf d g done=>wz [] (λo=>(f,o,wg [] (UE a c (dM o.op c f d) o.guard done) (vS (kindOf a o.op) 2))::g (Eh done [(f,o)])) (Cj b f)) d
def UI(E:Env)(ops:List Oper)(a:List Nat):Option Dr:=Prod.rec (λq r=>wj (some q) (λ_ _ _=>none) r) (Ed ops (vN (vO 2 (len ops)) 2) none (triples E ops (DP ops []) a []))
abbrev Ak:=List (Nat×List Nat)
def FN(a:Ak)(id:Nat):Option (List Nat):=wj none (λp _ b=>wg b (some p.2) (vS p.1 id)) a
inductive Pos where
 |root
 |l (p:Pos)
 |r (p:Pos)
 |lab (p:Pos) (n:Nat)
def Pos.beq(p:Pos):Pos→Bool:=Pos.rec (motive:=λ_=>Pos→Bool)
 (λq=>Pos.rec true (λ_ _=>false) (λ_ _=>false) (λ_ _ _=>false) q)
 (λ_ a q=>Pos.rec false (λq _=>a q) (λ_ _=>false) (λ_ _ _=>false) q)
 (λ_ a q=>Pos.rec false (λ_ _=>false) (λq _=>a q) (λ_ _ _=>false) q)
 (λ_ n a q=>Pos.rec false (λ_ _=>false) (λ_ _=>false) (λq m _=>An (vS n m) (a q)) q) p
abbrev As:=List (Pos×Nat)
def cutAt(cs:As)(p:Pos):Option Nat:=wj none (λa _ b=>wg b (some a.2) (Pos.beq a.1 p)) cs
abbrev Jump:=Nat→FT→H→Prop
abbrev Fp:=AX→FT→H→Prop
def OO(ds:List Tmp):List U→FT→FT:=wj (motive:=λ_=>List U→FT→FT) (λ_ f=>f) (λa _ b c f=>wj f (λv c _=>b c (Aq f a v)) c) ds
def RB(E:Env)(fn:Fn):Bool:=match fn with
 |.func f=>match E.fn f with
  |some fn=>match fn.body with
   | some _ => !(fn.name == "runtime.NumGoroutine")
   |none=>false
  |none=>false
 |_=>false
def isReady(s:LoopState):Bool:=match s with
 |.ready=>true
 |_=>false
def tL(s:LoopState):Bool:=match s with
 |.busy=>false
 |_=>true
def kT(BP:Ak):Nat:=wz 0 (λl=>wj 0 (λn _ _=>n) l) (FN BP 4294967295)
def Ou(BP:Ak):List Nat:=wz [] (λl=>l) (FN BP 4294967294)
def H3(l:List Nat)(f:FT):FT:=wj (λ_=>.top) (λt _ a=>Aq a t (f t)) l
def eH(n:Nat):Nat→P:=vP (motive:=λ_=>Nat→P) (λ_=>.z) (λ_ a b=>wg (wg (.r (a (Nat.div (vQ b 2) 2))) (.l (a (Nat.div (vQ b 1) 2))) (vS (Nat.mod b 2) 1)) .z (vS b 0)) n
def qn(l:P)(K:AX→H→Prop)(a:H):Prop:=PK (a.at l) (λb c d f=>wg Av (a.Gv l (.loop b c .exhausted f) (λa=>K f a)) (tL d))
def NP(E:Env)(b:CF)(c:OX)(d:U)(f:FT)(g:H)(K:AX→H→Prop):Prop:=
 pg d (λfn a h=>wg Av (g.Bu (.loop f c .ready .normal) (λl g=>b fn (a++[.func (.yield l.nat) [] []]++h) g (λ_ g=>qn l K g))) (RB E fn))
def Sd(x y:AX):Bool:=match x with
 |.normal=>match y with|.normal=>true|_=>false
 |.exit i=>match y with|.exit j=>vS i j|_=>false
 |.goto i=>match y with|.goto j=>vS i j|_=>false
 |.ret=>match y with|.ret=>true|_=>false
def Ayp(x:AX)(l:List AX):Bool:=wj false (λa _ b=>wg b true (Sd x a)) l
def Anq(l:List AX):List AX:=wj [] (λx _ a=>wg (x::a) a (Ayp x a)) l
def Asc(id:Nat)(l:List AX):List AX:=wj [] (λx _ a=>wg (x::a) a (Sd x (.exit id))) l
def aD(c:Code):List AX:=Code.rec (motive:=λ_=>List AX) [] (λ_ _ _=>[]) (λ_ _ x y=>Eh x y) (λ_ _ _ x y=>Eh x y) (λid _ x=>Asc id x) (λ_ x=>x)
 (λ_ _ _ _ x y=>Eh x y) (λid=>[.exit id]) (λ_ x=>x) (λ_=>[]) (λl=>[.goto l]) [.ret] (λ_=>[]) c
def Wt(x:AX)(l:List AX)(K:AX→Prop):Prop:=wj False (λa _ b=>V (Sd x a) (K a) b) l
def opsOf(a:Code):Array Oper:=match a with
 |.region _ b _=>b
 |_=>#[]
def al(c:Code):Nat:=match c with
 |.region id _ _=>id
 |_=>0
def QV(l:List Oper)(i:Nat):Oper:=wz ⟨none,.move (.tmp 0),0,default,#[],none⟩ (λo=>o) (Cj l i)
def qI(o:Oper):Array TypeId:=match o.op with
 |.defer c=>c.argTypes
 |_=>#[]
theorem rL{x y:AX}(h:Sd x y=true):x=y:=by cases x<;>cases y<;>first|rfl|cases h|(rw[vW (show vS _ _=true from h)])
theorem Tf{x:AX}{K:AX→Prop}:∀{l:List AX},Wt x l K→K x
 |[],h=>h.elim
 |y::l,h=>by
  have h:V (Sd x y) (K y) (Wt x l K):=h;cases e:Sd x y with
  |true=>rw[e] at h;rw[rL e];exact h
  |false=>rw[e] at h;exact Tf h
def fE(BP:Ak)(a:Code):OX:=match a with
 |.rangeFunc _ b c d=>⟨b.toList,c,d,BP,kT BP⟩
 |_=>⟨[],.skip,.skip,[],0⟩
def GZ(b:Code)(p:Pos):Code:=Pos.rec b
 (λ_ c=>match c with|.seq a _=>a|.cond _ a _=>a|.block _ a=>a|.loop a=>a|.scope a=>a|_=>.skip)
 (λ_ c=>match c with|.seq _ d=>d|.cond _ _ d=>d|_=>.skip)
 (λ_ n c=>match c with|.scope a=>wz .skip (λb=>b) (findLabel a n)|_=>.skip) p
section
variable(E:Env)(call:CF)(BP:Ak)(Bw:As)(J:Jump)
def enter(p:Pos)(f:FT)(h:H)(A:Prop):Prop:=wz A (λL=>J L f h) (cutAt Bw p)
def pw(B:FT→H→Fp→Prop)(K:Fp):Fp:=λx f h=>AX.rec (B f h K) (λid=>K (.exit id) f h) (λl=>K (.goto l) f h) (K .ret f h) x
def Xr(id:Nat)(K:Fp):Fp:=λx f h=>AX.rec (K .normal f h) (λj=>wg (K (.exit j) f h) (K .normal f h) (vS j id)) (λl=>K (.goto l) f h) (K .ret f h) x
def cJ(B:FT→H→Prop)(K:Fp):Fp:=λx f h=>AX.rec (B f h) (λid=>K (.exit id) f h) (λl=>K (.goto l) f h) (K .ret f h) x
def Om(c:Code)(B:Nat→FT→H→Prop)(K:Fp):Fp:=λx f h=>AX.rec (K .normal f h) (λid=>K (.exit id) f h) (λl=>wz (K (.goto l) f h) (λ_=>B l f h) (findLabel c l)) (K .ret f h) x
def Aus(id:Nat)(a:List Oper)(f:FT)(b:H)(K:FT→H→Prop):Prop:=oV (FN BP id) (λc=>wj False (λ_ _ _=>oV (UI E a c) (λBG=>E3 E call BG f b K)) c)
def Apv(id:Nat)(a:List Oper)(b:Bool)(f:FT)(c:H)(K:FT→H→Prop):Prop:=wg (wz (oV (ML a) (λBG=>DL E call BG f c K)) (λ_=>False) (FN BP id)) (Aus E call BP id a f c K) b
abbrev GF:=Pos→FT→H→Fp→Prop
def Amf(a b:GF):GF:=λp f h K=>a (.l p) f h (pw (b (.r p)) K)
def lV(c:Operand)(a b:GF):GF:=λp f h K=>Be (eval' E c f) (λt=>wg (b (.r p) f h K) (a (.l p) f h K) t)
def jk(id:Nat)(a:GF):GF:=λp f h K=>a (.l p) f h (Xr id K)
def uo(a:GF):GF:=λp f h K=>a (.l p) f h (cJ (λf h=>enter Bw J p f h False) K)
def iw(c:Code)(a:GF):GF:=λp f h K=>a (.l p) f h (Om c (λl f h=>enter Bw J (.lab p l) f h False) K)
def Aoh(id:Nat)(a:List Oper)(b:Bool):GF:=λ_ f c K=>Apv E call BP id a b f c (λf c=>K .normal f c)
def iS(a:Operand)(b:Array Tmp)(c d:Code):GF:=λ_ f g K=>NP E call ⟨b.toList,c,d,BP,kT BP⟩ (eval' E a f) (H3 (Ou BP) f) g (λx g=>Wt x (.normal::Anq (aD d)) (λh=>K h f g))
def Hs(a:GF):GF:=λp f h K=>enter Bw J p f h (a p f h K)
def Hk(b:Code):GF:=Code.rec (motive:=λ_=>GF)
 (Hs Bw J (λ_ f c K=>K .normal f c)) (λid d g=>Hs Bw J (Aoh E call BP id d.toList g)) (λ_ _ a h=>Hs Bw J (Amf a h)) (λb _ _ a h=>Hs Bw J (lV E b a h)) (λid _ a=>Hs Bw J (jk id a)) (λ_ a=>Hs Bw J (uo Bw J a))
 (λi j k m _ _=>Hs Bw J (iS E call BP i j k m)) (λid=>Hs Bw J (λ_ f c K=>K (.exit id) f c)) (λb a=>Hs Bw J (iw Bw J b a)) (λ_=>Hs Bw J (λ_ f c K=>K .normal f c)) (λl=>Hs Bw J (λ_ f c K=>K (.goto l) f c)) (Hs Bw J (λ_ f c K=>K .ret f c)) (λ_=>λ_ _ _ _=>False) b
def Acn(c:Code):GF:=Code.rec (motive:=λ_=>GF)
 (λ_ f b K=>K .normal f b) (λid d g=>Aoh E call BP id d.toList g) (λa h _ _=>Amf (Hk E call BP Bw J a) (Hk E call BP Bw J h)) (λc a h _ _=>lV E c (Hk E call BP Bw J a) (Hk E call BP Bw J h)) (λid a _=>jk id (Hk E call BP Bw J a)) (λa _=>uo Bw J (Hk E call BP Bw J a))
 (λi j k m _ _=>iS E call BP i j k m) (λid=>λ_ f b K=>K (.exit id) f b) (λc _=>iw Bw J c (Hk E call BP Bw J c)) (λ_=>λ_ f b K=>K .normal f b) (λl=>λ_ f b K=>K (.goto l) f b) (λ_ f b K=>K .ret f b) (λ_=>λ_ _ _ _=>False) c
abbrev CK:=Option (Code×Fp)
def ckL(p:Pos)(c:Code)(K:Fp):CK:=Code.rec (motive:=λ_=>CK) none (λ_ _ _=>none) (λa b _ _=>some (a,pw (Hk E call BP Bw J b (.r p)) K)) (λ_ a _ _ _=>some (a,K)) (λid a _=>some (a,Xr id K))
 (λa _=>some (a,cJ (λf h=>enter Bw J p f h False) K)) (λ_ _ _ _ _ _=>none) (λ_=>none) (λa _=>some (a,Om a (λl f h=>enter Bw J (.lab p l) f h False) K)) (λ_=>none) (λ_=>none) none (λ_=>none) c
def ckR(c:Code)(K:Fp):CK:=Code.rec (motive:=λ_=>CK) none (λ_ _ _=>none) (λ_ b _ _=>some (b,K)) (λ_ _ b _ _=>some (b,K)) (λ_ _ _=>none)
 (λ_ _=>none) (λ_ _ _ _ _ _=>none) (λ_=>none) (λ_ _=>none) (λ_=>none) (λ_=>none) none (λ_=>none) c
def Acf(p:Pos)(n:Nat)(c:Code)(K:Fp):CK:=Code.rec (motive:=λ_=>CK) none (λ_ _ _=>none) (λ_ _ _ _=>none) (λ_ _ _ _ _=>none) (λ_ _ _=>none)
 (λ_ _=>none) (λ_ _ _ _ _ _=>none) (λ_=>none) (λa _=>wz none (λr=>some (r,Om a (λl f h=>enter Bw J (.lab p l) f h False) K)) (findLabel a n)) (λ_=>none) (λ_=>none) none (λ_=>none) c
def JG(c0:Code)(K0:Fp)(p:Pos):CK:=Pos.rec (some (c0,K0))
 (λp a=>wz none (λq=>ckL E call BP Bw J p q.1 q.2) a) (λ_ a=>wz none (λq=>ckR q.1 q.2) a) (λp n a=>wz none (λq=>Acf Bw J p n q.1 q.2) a) p
def EL(c0:Code)(K0:Fp)(p:Pos)(f:FT)(h:H):Prop:=wz False (λq=>Acn E call BP Bw J q.1 p f h q.2) (JG E call BP Bw J c0 K0 p)
def PM:Jump:=λ_ _ _=>False
def Ym(l:P)(k:KV):Fp:=λx _ h=>PK (h.at l) (λf s _ _=>AX.rec (h.Gv l (.loop f s .ready .normal) (λh=>k (.bool true) h)) (λid=>h.Gv l (.loop f s .done (.exit id)) (λh=>k (.bool false) h))
 (λt=>h.Gv l (.loop f s .done (.goto t)) (λh=>k (.bool false) h)) (h.Gv l (.loop f s .done .ret) (λh=>k (.bool false) h)) x)
def Adl(l:P)(a:OX)(b:KV):Fp:=λx f c=>AX.rec (PK (c.at l) (λd g h i=>wg Av (c.Gv l (.loop d g .busy i) (λc=>Hk E call a.BP [] PM a.body .root f c (Ym l b))) (isReady h))) (λ_=>False) (λ_=>False) False x
def Yd(Fa:OX→Bool)(l:P)(a:List U)(b:H)(c:KV):Prop:=PK (b.at l) (λf d _ _=>wg Av (Hk E call d.BP [] PM d.assign .root (OO d.params a f) b (Adl E call l d c)) (An (Fa d) (vS (len a) (len d.params))))
def LR(Fa:OX→Bool)(n:Nat)(a:List U)(b:H)(c:KV):Prop:=wg Av (Yd E call Fa (eH n n) a b c) (vS (P.nat (eH n n)) n)
def Aad(f:FT)(h:H)(r:ResultVar)(k:U→Prop):Prop:=ResultVar.rec (λt=>k (f t)) (λa t=>OE E t (f a) h k) r
def Pc(f:FT)(a:H)(b:List ResultVar):(List U→Prop)→Prop:=wj (motive:=λ_=>(List U→Prop)→Prop) (λc=>c []) (λr _ d c=>Aad E f a r (λv=>d (λl=>c (v::l)))) b
def Ta(l:List U):U:=wj (.tuple []) (λv r _=>wj v (λ_ _ _=>.tuple (v::r)) r) l
def Ax(a:List ResultVar)(b:KV):Fp:=λx f c=>AX.rec (Pc E f c a (λl=>b (Ta l) c)) (λ_=>False) (λ_=>False) (Pc E f c a (λl=>b (Ta l) c)) x
end
end Go.Den
namespace Go.Den
open Go.RowKit
theorem BW(n:Int)(K:Int→Prop):fI n K=K n:=by cases n<;>rfl
theorem CX:¬Av:=λh=>h
theorem ZW{a b:IntKind}(h:ME a b=true):a=b:=by cases a<;>cases b<;>first|rfl|cases h
theorem Ja{a:IntKind}{v:U}{K:Int→Prop}(b:Ar a v K):∃n,v=.int a n∧K n:=by
 cases v<;>try exact(CX b).elim
 rename_i j n;have b:(wg Av (K n) (ME a j):Prop):=b;cases c:ME a j with
 |false=>rw[c] at b;exact(CX b).elim
 |true=>rw[c] at b;cases ZW c;exact⟨n,rfl,by assumption⟩
theorem Mi{v:U}{K:Int→Prop}(h:UU v K):∃k n,v=.int k n∧K n:=by cases v<;>first|exact(CX h).elim|exact⟨_,_,rfl,h⟩
theorem Ec{v:U}{K:Bool→Prop}(h:Be v K):∃b,v=.bool b∧K b:=by cases v<;>first|exact(CX h).elim|exact⟨_,rfl,h⟩
theorem Gx{v:U}{K:Nat→Nat→Prop}(h:Bv v K):∃l c,v=.str l c∧K l c:=by cases v<;>first|exact(CX h).elim|exact⟨_,_,rfl,h⟩
theorem Hg{v:U}{K:P→Nat→Prop}(h:OW v K):∃b o,v=.ptr b o∧K b o:=by cases v<;>first|exact(CX h).elim|exact⟨_,_,rfl,h⟩
theorem KL{v:U}{K:List U→Prop}(h:EX v K):∃cs,v=.agg cs∧K cs:=by cases v<;>first|exact(CX h).elim|exact⟨_,rfl,h⟩
theorem Y1{v:U}{K:List U→Prop}(h:asT v K):∃cs,v=.tuple cs∧K cs:=by cases v<;>first|exact(CX h).elim|exact⟨_,rfl,h⟩
theorem jt{v:U}{K:Fn→List U→List U→Prop}(h:pg v K):∃fn a c,v=.func fn a c∧K fn a c:=by cases v<;>first|exact(CX h).elim|exact⟨_,_,_,rfl,h⟩
theorem LI{o:Ob FT}{K:(Nat→U)→OX→LoopState→AX→Prop}(h:PK o K):∃f a b c,o=.loop f a b c∧K f a b c:=by cases o<;>first|exact(CX h).elim|exact⟨_,_,_,_,rfl,h⟩
theorem ae{v:U}{K:Prop}(h:one v K):v.one=true∧v.cells=[v]∧K:=by cases v<;>first|exact(CX h).elim|exact⟨rfl,rfl,h⟩
theorem HP{a:Type}{o:Option a}{K:a→Prop}(b:oV o K):∃v,o=some v∧K v:=by
 cases o with
 |none=>exact b.elim
 |some v=>exact⟨v,rfl,b⟩
theorem HT{n:Int}{K:Nat→Prop}(h:Bo n K):∃m,n=Int.ofNat m∧K m:=by
 cases n with
 |ofNat m=>exact⟨m,rfl,h⟩
 |negSucc m=>exact h.elim
theorem Pg{v:U}{K:Nat→Prop}(h:Rf v K):∃m,Bf v=some m∧K m:=by obtain⟨k,n,rfl,h⟩:=Mi h;obtain⟨m,rfl,h⟩:=HT h;exact⟨m,rfl,h⟩
theorem NB{c:Bool}{K:Prop}(h:(wg False K c:Prop)):c=true∧K:=by
 cases c with
 |false=>exact h.elim
 |true=>exact⟨rfl,h⟩
theorem Dz{c:Bool}{K:Prop}(h:(wg Av K c:Prop)):c=true∧K:=by
 cases c with
 |false=>exact(CX h).elim
 |true=>exact⟨rfl,h⟩
theorem Vi{c:Bool}{K:Prop}(h:(wg K False c:Prop)):c=false∧K:=by
 cases c with
 |true=>exact h.elim
 |false=>exact⟨rfl,h⟩
theorem jJ{v:U}{K:Nat→Prop}(h:Bz v K):(v=.Af∧K 0)∨∃b o n z t,v=.slice b o n z t∧K n:=by cases v<;>first|exact(CX h).elim|exact .inl ⟨rfl,h⟩|exact .inr ⟨_,_,_,_,_,rfl,h⟩
theorem cp{sz a:Nat}{v:U}{K:U→Prop}(b:A7 sz a v K):∃c o n t,v=.slice c o n sz t∧vU (vN a 1) n=true∧K (.ptr c (vN o (vO a sz))):=by
 cases v<;>try exact(CX b).elim
 rename_i c o n z t;obtain⟨d,b⟩:=Dz (show(wg Av (fN (vN o (vO a sz)) (λq=>K (.ptr c q))) (An (vU (vN a 1) n) (vS sz z)):Prop) from b);obtain⟨f,g⟩:=Ao d;have e:=Bh g;subst e;exact⟨c,o,n,t,rfl,f,by assumption⟩
theorem Ash(E:Env)(k:KV)(o:Option (U×H)):oK o k=B2 (CP E) k o:=rfl
theorem Ad(k:KV)(v:U)(h:H):oK (some (v,h)) k=k v h:=by obtain⟨m,n⟩:=h;show BB v (λv=>FK m (λm=>k v ⟨m,n⟩))=_;rw[BI,FQ]
theorem iN{a:KV}{o:Option (U×H)}(b:oK o a):∃v c,o=some (v,c)∧a v c:=by
 cases o with
 |none=>exact b.elim
 |some p=>obtain⟨v,c⟩:=p;rw[Ad] at b;exact⟨v,c,rfl,b⟩
section
variable{E:Env}
theorem uH{a:TypeDesc}{v:U}{K:U→Prop}(b:coD a v K):K v:=by
 unfold coD at b;split at b
 · obtain⟨n,rfl,c⟩:=Ja b;exact c
 · obtain⟨d,rfl,c⟩:=Ec b;exact c
 · obtain⟨l,f,rfl,c⟩:=Gx b;exact c
 · exact b
theorem Kv{t:TypeId}{v:U}{K:U→Prop}(h:PV E t v K):K v:=by
 unfold PV at h;split at h
 · exact uH h
 · exact h
theorem OZ{op:BinOp}{b:IntKind}{a c:Int}{d:Nat→Nat→Nat}(f:∀x g,Q8 op b x g=some (.int b (.ofNat (d x g)))){K:U→Prop}(h:Zf d b a c (λn=>K (.int b n))):∃v,S2 op b a c=some v∧K v:=by obtain⟨x,rfl,h⟩:=HT h;obtain⟨g,rfl,h⟩:=HT h;obtain⟨i,h⟩:=NB h;refine⟨_,?_,h⟩;show(wg none (Q8 op b x g) (An (vU x (intMax b)) (vU g (intMax b))):Option U)=_;rw[i,f]
theorem iB{op:BinOp}{b:IntKind}{a c:Int}{K:U→Prop}(d:bI op b a c K):∃v,Ni op b a c=some v∧K v:=by
 cases op<;>simp only[bI] at d
 case add=>rw[BW] at d;exact⟨_,rfl,d⟩
 case sub=>rw[BW] at d;exact⟨_,rfl,d⟩
 case mul=>rw[BW] at d;exact⟨_,rfl,d⟩
 case quo=>obtain⟨f,d⟩:=Vi d;rw[BW] at d;refine⟨_,?_,d⟩;show qG b a c=_;unfold qG;rw[f];rfl
 case rem=>obtain⟨f,d⟩:=Vi d;rw[BW] at d;refine⟨_,?_,d⟩;show Aam b a c=_;unfold Aam;rw[f]
 case and=>exact OZ (λ_ _=>rfl) d
 case or=>exact OZ (λ_ _=>rfl) d
 case xor=>exact OZ (λ_ _=>rfl) d
 case shl=>obtain⟨g,rfl,h⟩:=HT d;rw[BW] at h;exact⟨_,rfl,h⟩
 case shr=>obtain⟨g,rfl,h⟩:=HT d;rw[BW] at h;exact⟨_,rfl,h⟩
 case eql=>exact⟨_,rfl,d⟩
 case neq=>exact⟨_,rfl,d⟩
 case lss=>exact⟨_,rfl,d⟩
 case leq=>exact⟨_,rfl,d⟩
 case gtr=>exact⟨_,rfl,d⟩
 case geq=>exact⟨_,rfl,d⟩
theorem Ajz{op:BinOp}{l a b c:Nat}{K:U→Prop}(d:bS op l a b c K):∃v,Qw op l a b c=some v∧K v:=by
 cases op<;>simp only[bS] at d
 case add=>obtain⟨f,d⟩:=NB d;refine⟨_,?_,d⟩;show(wg none _ (vU (vN l b) (intMax .i64)):Option U)=_;rw[f]
 all_goals exact⟨_,rfl,d⟩
theorem kH{op:BinOp}{t:TypeId}{x b:U}{K:U→Prop}(c:Y5 E op t x b K):∃v,Dh E op t x b=some v∧K v:=by
 unfold Y5 at c;split at c
 · unfold oX at c;split at c
   · obtain⟨a,rfl,d⟩:=Ja c;clear c;unfold Aav at d;rename_i f _;cases g:bK op with
     |true=>
      rw[g] at d;obtain⟨j,h,rfl,i⟩:=Mi d;obtain⟨v,k,m⟩:=iB i;refine⟨v,?_,m⟩;show(wg none (Ni op f a h) (sameKind op f j):Option U)=_;have:sameKind op f j=true:=by cases op<;>first|rfl|cases g
      rw[this];exact k
     |false=>
      rw[g] at d;obtain⟨h,rfl,i⟩:=Ja d;obtain⟨v,k,m⟩:=iB i;refine⟨v,?_,m⟩;show(wg none (Ni op f a h) (sameKind op f f):Option U)=_;have:sameKind op f f=true:=by cases op<;>first|rfl|exact decide_eq_true rfl
      rw[this];exact k
   · obtain⟨l,n,rfl,d⟩:=Gx c;obtain⟨o,p,rfl,i⟩:=Gx d;obtain⟨v,k,m⟩:=Ajz i;exact⟨v,k,m⟩
   · exact HP c
 · exact c.elim
theorem kv{op:BinOp}{t:TypeId}{a b:Operand}{x c:U}{K:U→Prop}(d:Vj E op t a b x c K):∃v,Ps E op t a b x c=some v∧K v:=by
 unfold Vj at d;unfold Ps;cases f:S0 E op t a b with
 |false=>rw[f] at d;exact kH d
 |true=>
  rw[f] at d;have d:oV (Re E op t x c) K:=d;show∃v,Re E op t x c=some v∧K v;cases g:Re E op t x c with
  |none=>rw[g] at d;exact d.elim
  |some v=>rw[g] at d;exact⟨v,rfl,d⟩
theorem sc{op:UnOp}{x:U}{K:U→Prop}(a:jU op x K):∃v,Z7 op x=some v∧K v:=by
 unfold jU at a;split at a
 · obtain⟨b,rfl,c⟩:=Ec a;refine⟨_,rfl,?_⟩;cases b<;>exact c
 · exact HP a
end
end Go.Den
namespace Go.Den
open Go.RowKit
section
variable{E:Env}{call:CF}{f:FT}{h:H}{k:KV}
theorem EZ{o:Option (U×H)}{v:U}{a:H}(e:o=some (v,a))(b:k v a):B2 (CP E) k o:=by rw[e,←Ash,Ad];exact b
theorem Je{l:List Operand}:D7 E f l=l.map λx=>eval (CP E) x f:=by
 induction l with
 |nil=>rfl
 |cons x l a=>show eval' E x f::D7 E f l=_;rw[a];rfl
theorem dB{e:TypeId}(a:WZ E e h k):B2 (CP E) k (Nh e (E.ty e) h):=by
 unfold WZ at a;split at a
 · rename_i b hi;rw[Hf] at a;refine EZ ?_ a;rw[hi];rfl
 · exact a.elim
theorem Vk{t:TypeId}{a:U}(b:OE E t a h (λv=>k v h)):(Ko.rec False (λc d=>wz False (λf=>JS (CP E) h k c d f) (E.ty t)) (IX a):Prop):=by
 unfold OE at b;split at b
 · rename_i f hi;split at b
   · rename_i g;obtain⟨c,o,rfl,b⟩:=Hg b;show(wz False (λf=>JS (CP E) h k c o f) (E.ty t):Prop);rw[hi];show(wg _ (h.ES c o f.size False (λl=>k (.agg l) h)) f.agg:Prop);rw[g];exact b
   · rename_i g;obtain⟨c,o,rfl,b⟩:=Hg b;show(wz False (λf=>JS (CP E) h k c o f) (E.ty t):Prop);rw[hi];show(wg (h.EP c o False (λv=>k v h)) _ f.agg:Prop);rw[g];exact b
 · exact b.elim
theorem eP{t:TypeId}{a v:U}(b:W3 E t a v h (λh=>k .undef h)):(Ko.rec False (λc d=>wz False (λf=>BB v (λv=>HE (CP E) h k c d v f)) (E.ty t)) (IX a):Prop):=by
 unfold W3 at b;split at b
 · rename_i f hi;split at b
   · obtain⟨c,o,rfl,b⟩:=Hg b;obtain⟨cs,rfl,b⟩:=KL b;obtain⟨g,b⟩:=Dz b;show(wz False (λf=>BB (.agg cs) (λv=>HE (CP E) h k c o v f)) (E.ty t):Prop);rw[hi];show BB (.agg cs) (λv=>HE (CP E) h k c o v f);rw[BI];show(wg False (h.Ew c o cs False (λh=>k .undef h)) (An (vS (len cs) f.size) (vU 1 f.size)):Prop);rw[g];exact b
   · split at b
     · rename_i i;obtain⟨c,o,rfl,b⟩:=Hg b;obtain⟨j,l,b⟩:=ae b;show(wz False (λf=>BB v (λv=>HE (CP E) h k c o v f)) (E.ty t):Prop);rw[hi];show BB v (λv=>HE (CP E) h k c o v f);rw[BI];show(wg False (h.Ew c o v.cells False (λh=>k .undef h)) (An (vS (len v.cells) f.size) (vU 1 f.size)):Prop);rw[l,Bh i];exact b
     · exact b.elim
 · exact b.elim
theorem Zh{e:TypeId}{v:U}(a:gU E e v h k):BB v (λv=>(wg False (h.Bu (rowOf e v.cells) (λb h=>k (.ptr b 0) h)) (vU 1 (len v.cells)):Prop)):=by
 rw[BI];unfold gU at a;split at a
 · split at a
   · obtain⟨cs,rfl,a⟩:=KL a;exact a
   · obtain⟨c,d,a⟩:=ae a;rw[d];exact a
 · exact a.elim
theorem ZN{t:TypeId}{x:U}{a:Nat}(b:Ls E t x a (λv=>k v h)):(Ko.rec False (λc d=>wz False (λo=>k (.ptr c (vN d o)) h) (LJ E t a)) (IX x):Prop):=by
 unfold Ls at b;split at b
 · rename_i o f;obtain⟨c,q,rfl,b⟩:=Hg b;show(wz False (λo=>k (.ptr c (vN q o)) h) (LJ E t a):Prop);rw[f];exact b
 · exact b.elim
theorem dy{t:TypeId}{x:U}{a:Nat}(b:N3 E t x a (λv=>k v h)):B2 (CP E) k (Jt E t x a h):=by
 unfold N3 at b;split at b
 · rename_i p c;unfold YZ at c;split at c<;>try cases c
   rename_i d f;split at c<;>try cases c
   rename_i g i;split at c<;>try cases c
   rename_i q j;split at c<;>cases c;rename_i l m;have n:∀cs r,part E q.2 cs q.1=some r→Jt E t (.agg cs) a h=some (r,h):=λcs r o=>by
    show(wz none (λd=>match d.desc with
     |.struct g=>wz none (λp=>C3 h (part E p.2 cs p.1)) (HU g.toList a)
     |_=>none) (E.ty t):Option (U×H))=_
    rw[f];simp only[i,j];show C3 h (part E q.2 cs q.1)=_;rw[o];rfl
   split at b
   · rename_i s;have s:l.agg=true:=s;obtain⟨cs,rfl,u⟩:=KL b;refine EZ (n cs (.agg (FW l.size (Ho q.1 cs))) ?_) u;show(wz none (λa=>wg (Cj cs q.1) (some (.agg (FW a.size (Ho q.1 cs)))) a.agg) (E.ty q.2):Option U)=_;rw[m];show(wg (Cj cs q.1) (some (.agg (FW l.size (Ho q.1 cs)))) l.agg:Option U)=_;rw[s]
   · rename_i s;have s:l.agg=false:=s;obtain⟨cs,rfl,u⟩:=KL b;obtain⟨v,w,y⟩:=HP u;refine EZ (n cs v ?_) y;show(wz none (λa=>wg (Cj cs q.1) (some (.agg (FW a.size (Ho q.1 cs)))) a.agg) (E.ty q.2):Option U)=_;rw[m];show(wg (Cj cs q.1) (some (.agg (FW l.size (Ho q.1 cs)))) l.agg:Option U)=_;rw[s];exact w
 · exact b.elim
theorem Yt{t:TypeId}{x a:U}(b:Hc E t x a h k):B2 (CP E) k (Ef E t x (Bf a) h):=by
 unfold Hc at b;split at b
 · rename_i e c;split at b
   · rename_i d f;obtain⟨g,i,b⟩:=Pg b;obtain⟨j,o,n,q,rfl,l,b⟩:=cp b;refine EZ ?_ b;rw[i];show Jx E t j o n d.size g h=_;unfold Jx AE;rw[c];show(wz none (λm=>wg none _ _) (E.ty e):Option (U×H))=_;rw[f];show(wg none (some (.ptr j (vN o (vO g d.size)),h)) (An (vU (vN g 1) n) (vS d.size d.size)):Option (U×H))=_;rw[l,Nat.beq_refl];rfl
   · exact b.elim
 · exact b
theorem dk{t:TypeId}{x a:U}(b:IN E t x a h k):B2 (CP E) k (Hl E t x (Bf a) h):=by
 unfold IN at b;split at b
 · rename_i c d;split at b
   · rename_i f;obtain⟨l,g,rfl,b⟩:=Gx b;obtain⟨i,j,b⟩:=Pg b;obtain⟨m,b⟩:=NB b;refine EZ ?_ b;rw[j];show(wz none (λc=>wg none (wg none (some (.int .u8 (.ofNat (DD g i)),h)) (vU (vN i 1) l)) (isStr c.desc)) (E.ty t):Option (U×H))=_;rw[d];show(wg none (wg none (some (.int .u8 (.ofNat (DD g i)),h)) (vU (vN i 1) l)) (isStr c.desc):Option (U×H))=_;rw[f,m]
   · exact b
 · exact b.elim
theorem Ahh{a:Nat}{x:U}(b:ext a x (λv=>k v h)):B2 (CP E) k (Ir x a h):=by obtain⟨cs,rfl,b⟩:=Y1 b;obtain⟨v,c,b⟩:=HP b;refine EZ ?_ b;show C3 h (Cj cs a)=_;rw[c];rfl
theorem mM{a:List TypeId}{x:U}(b:Un E a x h k):B2 (CP E) k (Hr E a x h):=by
 unfold Un at b;split at b
 · rename_i t c;split at b
   · rename_i d f;have e:Hr E a x h=ZB E d.desc x h:=by unfold Hr;rw[c];show(wz none (λd=>ZB E d.desc x h) (E.ty t):Option (U×H))=_;rw[f]
     unfold Sl at b;split at b
     · rename_i g;obtain⟨l,i,rfl,j⟩:=Gx b;exact EZ (e.trans (by rw[g];rfl)) j
     · rename_i g;rcases jJ b with⟨rfl,j⟩|⟨m,o,n,z,q,rfl,j⟩
       · exact EZ (e.trans (by rw[g];rfl)) j
       · exact EZ (e.trans (by rw[g];rfl)) j
     · exact b
   · exact b.elim
 · exact b.elim
theorem Xe{a:Builtin}{b:List TypeId}{c:List U}(d:F4 E a b c h k):B2 (CP E) k (AB E a b c h):=by
 unfold F4 at d;split at d
 · split at d
   · exact mM d
   · exact d.elim
 · exact d
theorem kR{a b:TypeId}{x:U}(c:JI E a b x h k):B2 (CP E) k (D4 E h a b x):=by
 unfold JI at c;split at c
 · rename_i d f;unfold NH at c;split at c
   · rename_i g i;split at c
     · obtain⟨j,n,rfl,l⟩:=Mi c;rw[BW] at l;refine EZ ?_ l;unfold D4;rw[f];show Xp E h a d.desc (.int j n)=_;rw[i];rfl
     · exact c
   · exact c
 · exact c.elim
theorem UW{o:Option U}{a:Nat}{K:Nat→Prop}(b:Uz o a K):∃n,bound a (o.map Bf)=some n∧K n:=by
 cases o with
 |none=>exact⟨a,rfl,b⟩
 |some v=>obtain⟨c,d,b⟩:=Pg b;exact⟨c,d,b⟩
theorem MM{o:Option Operand}:Ip (CP E) f o=(o.map λx=>eval' E x f).map Bf:=by cases o<;>rfl
theorem ca{t:TypeId}{x:U}{lo hi a:Option U}(b:G0 E t x lo hi a h k):
 B2 (CP E) k (wz none (λc=>C3 h (FO E h t x (lo.map Bf) (hi.map Bf) c)) (maxOf (a.map Bf))):=by
 unfold G0 at b;split at b
 · rename_i d f;split at b
   · rename_i g;split at b
     · obtain⟨l,i,rfl,b⟩:=Gx b;obtain⟨n,j,b⟩:=UW b;obtain⟨c,m,b⟩:=UW b;obtain⟨o,b⟩:=NB b;refine EZ ?_ b;show C3 h (FO E h t (.str l i) (lo.map Bf) (hi.map Bf) none)=_;have p:d.desc=.string:=by cases q:d.desc<;>rw[q] at g<;>first|rfl|cases g
       unfold FO;rw[f];show C3 h (Oo E h d.desc (.str l i) (lo.map Bf) (hi.map Bf) none)=_;rw[p];show C3 h (Fq l (lo.map Bf) (hi.map Bf) (λlo h=>Vu i l lo h))=_;unfold Fq;rw[j];show C3 h (wz none (λlo=>Vu i l lo n) (bound 0 (lo.map Bf)))=_;rw[m];show C3 h (wg none (some (.str (vQ n c) (Me i c n))) (An (vU c n) (vU n l)))=_;rw[o];rfl
     · exact b.elim
   · exact b
 · exact b.elim
theorem Wn{t:TypeId}{x:U}(a:Ox E t x h k):B2 (CP E) k (Il E t x h):=by
 unfold Ox at a;split at a
 · rename_i b c;split at a
   · exact a.elim
   · rename_i hi;refine EZ ?_ a;unfold Il;rw[c];show(wg (some (.iface t x,h)) none (isIface b.desc):Option (U×H))=_;rw[hi]
 · exact a.elim
theorem OS{o:Op}(b:Ck E o call f h k):exec o (CP E) call f h k:=by
 cases o
 case move x=>show BB (eval (CP E) x f) (λv=>k v h);rw[BI];exact b
 case assign x=>show BB (eval (CP E) x f) (λv=>k v h);rw[BI];exact b
 case alloc e=>exact dB b
 case box e x=>exact Zh b
 case load t a=>exact Vk b
 case store t a x=>exact eP b
 case binOp op t x c q=>obtain⟨v,d,b⟩:=kv (show Vj E op t x c (eval' E x f) (eval' E c f) (λv=>k v h) from b);show(wz False (λv=>k v h) (Ps E op t x c (eval (CP E) x f) (eval (CP E) c f)):Prop);have d:Ps E op t x c (eval (CP E) x f) (eval (CP E) c f)=some v:=d;rw[d];exact b
 case unOp op t x=>obtain⟨v,d,b⟩:=sc (show jU op (eval' E x f) (λv=>k v h) from b);show(wz False (λv=>k v h) (Z7 op (eval (CP E) x f)):Prop);have d:Z7 op (eval (CP E) x f)=some v:=d;rw[d];exact b
 case convert g i x=>exact kR b
 case makeInterface t x=>exact Wn b
 case slice t x lo hi j=>have:=ca (show G0 E t (eval' E x f) (lo.map (λx=>eval' E x f)) (hi.map (λx=>eval' E x f)) (j.map (λx=>eval' E x f)) h k from b);show B2 (CP E) k (wz none (λm=>C3 h (FO E h t (eval (CP E) x f) (Ip (CP E) f lo) (Ip (CP E) f hi) m)) (maxOf (Ip (CP E) f j)));rw[MM,MM,MM];exact this
 case fieldAddr t x n=>exact ZN b
 case field t x n=>exact dy b
 case indexAddr t x n=>exact Yt b
 case index t x n=>exact dk b
 case extract x n=>exact Ahh b
 case makeFunc fn a p=>have b:k (.func fn (D7 E f a.toList) (D7 E f p.toList)) h:=b;refine Eq.mpr (Ek (C:=CP E) (f:=f) a.toList _) ?_;refine Eq.mpr (Ek (C:=CP E) (f:=f) p.toList _) ?_;show k (.func fn (a.toList.map λx=>eval (CP E) x f) (p.toList.map λx=>eval (CP E) x f)) h;rw[show(a.toList.map λx=>eval (CP E) x f)=D7 E f a.toList from Je.symm,show(p.toList.map λx=>eval (CP E) x f)=D7 E f p.toList from Je.symm];exact b
 case call r=>
  obtain⟨s,u,w⟩:=r;cases s with
  |invoke v y=>have b:O9 (CP E) call (eval (CP E) v f) y (D7 E f u.toList) h k:=b;show EO (CP E) f u.toList (λl=>O9 (CP E) call (eval (CP E) v f) y l h k);refine Eq.mpr (Ek (C:=CP E) (f:=f) u.toList _) ?_;show O9 (CP E) call (eval (CP E) v f) y (u.toList.map λx=>eval (CP E) x f) h k;rw[show(u.toList.map λx=>eval (CP E) x f)=D7 E f u.toList from Je.symm];exact b
  |builtin p=>have b:F4 E p w.toList (D7 E f u.toList) h k:=b;have:=Xe b;show EO (CP E) f u.toList (λl=>B2 (CP E) k (AB E p w.toList l h));refine Eq.mpr (Ek (C:=CP E) (f:=f) u.toList _) ?_;show oK (AB E p w.toList (u.toList.map λx=>eval (CP E) x f) h) k;rw[show(u.toList.map λx=>eval (CP E) x f)=D7 E f u.toList from Je.symm];exact this
  |value v=>have b:HZ (CP E) call (eval (CP E) v f) (D7 E f u.toList) h k:=b;show EO (CP E) f u.toList (λl=>HZ (CP E) call (eval (CP E) v f) l h k);refine Eq.mpr (Ek (C:=CP E) (f:=f) u.toList _) ?_;show HZ (CP E) call (eval (CP E) v f) (u.toList.map λx=>eval (CP E) x f) h k;rw[show(u.toList.map λx=>eval (CP E) x f)=D7 E f u.toList from Je.symm];exact b
 all_goals exact b
end
end Go.Den
namespace Go.Den
open Go.RowKit
theorem jX{o:Ob FT}{K:P→Nat→List Nat→Nat→Prop}(h:Als o K):∃m a b c,o=.Hq m a b c∧K m a b c:=by cases o<;>first|exact(CX h).elim|exact⟨_,_,_,_,rfl,h⟩
theorem SD{K:Ow→Prop}:∀{l:List Ow},VM K l→∀e∈l,K e
 |[],_,e,c=>by cases c
 |[a],d,e,c=>by rw[List.mem_singleton.1 c];exact d
 |a::b::l,d,e,c=>by
  obtain⟨f,g⟩:=(show And (K a) (VM K (b::l)) from d);rcases vw.1 c with rfl|c
  · exact f
  · exact SD g e c
theorem om(n:Nat):∀l:List Nat,PB n l=l.toArray.contains n:=by
 intro l;have a:PB n l=true↔n∈l:=by
  induction l with
  |nil=>simp[PB]
  |cons x l b=>
   have c:PB n (x::l)=(wg (PB n l) true (vS x n):Bool):=rfl;rw[c,DY];by_cases e:x=n
   · rw[decide_eq_true e];simp[e]
   · rw[decide_eq_false e];show PB n l=true↔_;rw[b];simp[Ne.symm e]
 rw[Bool.eq_iff_iff,a];simp
theorem SN{μ:Mu}(b:List Nat):∀{c:List Ow}{d:List MapEntry},Ez μ c d→Ez μ (leftOf b c) (d.filter λe=>!b.toArray.contains e.born)
 |[],_,f=>by cases(show _=[] from f);exact(rfl:([]:List MapEntry)=[])
 |a::c,_,⟨x,d,e,g,h,i,j⟩=>by
  subst e;have f:leftOf b (a::c)=(wg (a::leftOf b c) (leftOf b c) (PB a.2.2 b):List Ow):=rfl;rw[f,om,i,List.filter_cons];cases b.toArray.contains x.born with
  |true=>exact SN b j
  |false=>exact⟨x,_,rfl,g,h,i,SN b j⟩
theorem Tl{μ:Mu}{b:Nat}:∀{c:List Ow}{d:List MapEntry},Ez μ c d→VK b c=true→∀x∈d,x.born<b
 |[],_,f,_,x,g=>by cases(show _=[] from f);cases g
 |a::c,_,⟨h,d,e,i,j,k,l⟩,m,x,g=>by
  subst e;have m:(wg false (VK b c) (vU (vN a.2.2 1) b):Bool)=true:=m;cases n:vU (vN a.2.2 1) b with
  |false=>rw[n] at m;cases m
  |true=>
   rw[n] at m;rcases vw.1 g with rfl|g
   · have:a.2.2+1≤b:=Bq n;rw[k] at this;exact this
   · exact Tl l m x g
theorem Si{μ:Mu}{n:Nat}:∀{b:List Ow}{c:List MapEntry},Ez μ b c→Q3 n b=true→∃x∈c,x.born<n
 |[],_,_,d=>by cases d
 |a::b,_,⟨f,c,e,g,h,i,j⟩,k=>by
  subst e;have k:(wg (Q3 n b) true (vU (vN a.2.2 1) n):Bool)=true:=k;cases l:vU (vN a.2.2 1) n with
  |true=>have:a.2.2+1≤n:=Bq l;rw[i] at this;exact⟨f,by simp,this⟩
  |false=>rw[l] at k;obtain⟨x,m,o⟩:=Si j k;exact⟨x,by simp[m],o⟩
theorem Ez.mem{μ:Mu}:∀{b:List Ow}{c:List MapEntry},Ez μ b c→∀x∈c,∃e∈b,VR μ e.1 x.key∧VR μ e.2.1 x.val∧e.2.2=x.born
 |[],_,d,x,f=>by cases(show _=[] from d);cases f
 |a::b,_,⟨g,c,e,h,i,j,k⟩,x,f=>by
  subst e;rcases vw.1 f with rfl|f
  · exact⟨a,by simp,h,i,j⟩
  · obtain⟨e,l,m⟩:=Ez.mem k x f;exact⟨e,by simp[l],m⟩
theorem Sg{P:Program}{w:World}(n:Nat)(a:0<n):∃b c,(choose (.mapNext n)).run P w=.ok b c∧b<n∧c.heap=w.heap∧c.os=w.os∧c.tape=w.tape∧c.output=w.output:=by
 rw[run_choose];by_cases d:n≤1
 · exact⟨0,w,by rw[if_pos (by simpa[Question.forced] using d)],a,rfl,rfl,rfl,rfl⟩
 · exact⟨(Question.mapNext n).cut (w.tape w.drawn (.mapNext n)),{ w with drawn:=w.drawn+1 },by rw[if_neg (by simpa[Question.forced] using d)],Nat.mod_lt _ a,rfl,rfl,rfl,rfl⟩
theorem jz{P:Program}{μ:Mu}{a:H}{w:World}(c:Bc μ a w){d:U}{f:KV}(g:dJ d a f){h:Value}{ty:TypeId}(i:VR μ d h):
 ∃v j k av m,(Instr.next h false ty).run P w=.ok v j∧Bc k m j∧BF μ a w k m j∧VR k av v∧f av m:=by
 obtain⟨b,o,rfl,g⟩:=Hg g;obtain⟨n,g⟩:=Dz g;obtain rfl:=Bh n;obtain⟨q,s,t,u,y,g⟩:=jX g;obtain⟨p,d,g⟩:=HP g;obtain⟨h,g⟩:=Dz g;obtain⟨k,m⟩:=Ao h;obtain⟨l,n,rfl⟩:=i;have h:=c.ob b l (by rw[y];simp) n;rw[y] at h;obtain⟨a0,a1,a2,a3⟩:=h;have h:a.at q=.map p.1 p.2:=GS d;have d:=c.ob q a0 (by rw[h];simp) a1;rw[h] at d;obtain⟨h,a4,a5⟩:=d;have d:=SN t a5;have a6:=Tl d k;have g:(wj (f (.tuple [.bool false]) a) (λe r _=>VM (λe=>a.Gv b (.Hq q s (Eh t [e.2.2]) p.2) (λa=>f (.tuple [.bool true,e.1,e.2.1]) a)) (e::r)) (leftOf t p.1):Prop):=g;have k:(h.filter λe=>!t.toArray.contains e.born).toList=h.toList.filter λe=>!t.toArray.contains e.born:=by simp
 generalize f:(h.filter λe=>!t.toArray.contains e.born)=L at k;have a7:L.filter (λe=>decide (e.born<s))=L:=by rw[Array.filter_eq_self];intro x i;exact decide_eq_true (a6 x (by rw[←k];exact i.val))
 have a8:L.filter (λe=>decide (e.born≥s))=#[]:=by rw[Array.filter_eq_empty_iff];intro x i a9;have:=a6 x (by rw[←k];exact i.val);have:=of_decide_eq_true a9;omega
 have a6:((!t.toArray.isEmpty&&!h.isEmpty&&h.all (λe=>decide (e.born≥u)))=true)→False:=by
  intro a9;simp only[vK] at a9;obtain⟨⟨b0,b1⟩,b2⟩:=a9;cases a9:NU t with
  |true=>
   cases t with
   |nil=>simp at b0
   |cons=>cases a9
  |false=>
   rw[a9] at m;have m:(wg (Q3 u p.1) true (NU p.1):Bool)=true:=m;cases a9:NU p.1 with
   |true=>
    cases b3:p.1 with
    |nil=>rw[b3] at a5;have a5:h.toList=[]:=a5;rw[Array.toList_eq_nil_iff.1 a5] at b1;simp at b1
    |cons=>rw[b3] at a9;cases a9
   |false=>rw[a9] at m;obtain⟨x,i,h⟩:=Si a5 m;have b2:=(Array.all_eq_true_iff_forall_mem.1 b2) x (Array.mem_def.2 i);have:=of_decide_eq_true b2;omega
 have h:(Instr.next (.pointer (some ⟨l.blk,l.off+0,none⟩)) false ty).run P w=(do
  match(((if L.isEmpty then #[none] else #[])++(L++#[]).map some:Array (Option MapEntry)))[←choose (.mapNext ((if L.isEmpty then #[none] else #[])++(L++#[]).map some:Array (Option MapEntry)).size)]? with
  |some (some e)=>
   setObj l.blk (.mapIter (some a0.blk) s (t.toArray.push e.born) p.2)
   pure (.tuple #[.bool true,e.key,e.val])
  |some none=>pure (.tuple #[.bool false])
  | none => stuck "Next: no such candidate" : Sem Value).run P w := by
  unfold Instr.next;simp only[a3,Nat.zero_add];rw[Aa (De a2 (by intros;simp))];simp only;rw[Aa (De a4 (by intros;simp))];simp only;rw[if_neg (λm=>a6 m),f,a7,a8];rfl
 rw[h];rw[←k] at d;cases i:leftOf t p.1 with
 |nil=>
  rw[i] at g d;have f:L=#[]:=Array.toList_eq_nil_iff.1 d;obtain⟨m,j,h,hi,b0,b1,b2,k⟩:=Sg (P:=P) (w:=w) 1 (by omega);have b3:m=0:=by omega
  subst b3;refine⟨.tuple #[.bool false],j,μ,.tuple [.bool false],a,?_,c.heap b0,BF.heap μ a b0 b1 b2 k,⟨_,rfl,_,_,rfl,rfl,rfl⟩,g⟩;have a5:((if L.isEmpty then #[none] else #[])++(L++#[]).map some:Array (Option MapEntry))=#[none]:=by rw[f];simp
  rw[a5,show(#[none]:Array (Option MapEntry)).size=1 from rfl];rw[Aa h];rfl
 |cons f r=>
  rw[i] at g d;have f:0<L.size:=by
   obtain⟨x,i,e,_⟩:=d;have:L.toList.length=(x::i).length:=by rw[e]
   simp at this;omega
  have i:L.isEmpty=false:=by simp;intro e;rw[e] at f;simp at f
  have a5:((if L.isEmpty then #[none] else #[])++(L++#[]).map some:Array (Option MapEntry))=L.map some:=by rw[i];simp
  rw[a5];obtain⟨m,j,h,hi,b0,b1,b2,k⟩:=Sg (P:=P) (w:=w) (L.map some).size (by simpa using f);have i:m<L.size:=by simpa using hi
  obtain⟨e,a9,f,a4,a6⟩:=d.mem L[m] (by simp);have d:=SD g e a9;have g:=c.heap b0;have c:j.heap[l.blk]? =some (.mapIter (some a0.blk) s t.toArray u):=by rw[b0];exact a2
  obtain⟨u,a7,a8,b3⟩:=g.putObj (Pr:=P) (b:=b) (by rw[y];rfl) n c (by intros;simp) (.mapIter (some a0.blk) s (t.toArray.push L[m].born) p.2) (.Hq q s (Eh t [e.2.2]) p.2) λj g=>⟨a0,a1,by rw[g,If,a6];simp,a3⟩;rw[Gi] at d;refine⟨.tuple #[.bool true,L[m].key,L[m].val],u,μ,.tuple [.bool true,e.1,e.2.1],_,?_,a8,(BF.heap μ a b0 b1 b2 k).trans b3,⟨_,rfl,_,_,rfl,rfl,_,_,rfl,f,_,_,rfl,a4,rfl⟩,d⟩;rw[Aa h];have y:(L.map some)[m]? =some (some L[m]):=by simp[i]
  rw[y];simp only;rw[Aa a7];rfl
end Go.Den
namespace Go.Den
open Go.RowKit
theorem Sj:Bgl Ane where
 init l t:=by show(wz U.undef (λv=>v) (Cj l t):U)=_;rw[CU,List.getD_eq_getElem?_getD];cases l[t]?<;>rfl
 set f t v u:=by
  show(wg (f u) v (vS u t):U)=_;rw[DY];by_cases e:u=t
  · rw[if_pos e,decide_eq_true e]
  · rw[if_neg e,decide_eq_false e];rfl
 force f k:=rfl
theorem EE(f:FT)(d:Nat)(v:U)(u:Nat):Aq f d v u=if u=d then v else f u:=Sj.set f d v u
theorem Ov(f:FT):∀(l:List Nat)(t:Nat),H3 l f t=.top∨H3 l f t=f t
 |[],_=>.inl rfl
 |u::l,t=>by
  show Aq (H3 l f) u (f u) t=.top∨Aq (H3 l f) u (f u) t=f t;rw[EE];by_cases e:t=u
  · rw[if_pos e,e];exact .inr rfl
  · rw[if_neg e];exact Ov f l t
section
variable{P:Program}{D:List Deferred}
structure FR(μ:Mu)(N:Nat)(D:List Deferred)(f:FT)(a:Act):Prop where
 size:N≤a.tmps.size
 get:∀t,VR μ (f t) (a.tmps.getD t undef)
 defs:a.defers=D
theorem FR.mono{μ b:Mu}(h:Mu.le μ b){N:Nat}{f:FT}{a:Act}(r:FR μ N D f a):FR b N D f a:=⟨r.size,λt=>VR.mono h _ _ (r.get t),r.defs⟩
theorem UC(ts:Array Value)(d t:Nat)(v:Value)(h:d<ts.size):(ts.setIfInBounds d v).getD t undef=if t=d then v else ts.getD t undef:=by
 simp only[Array.getD_eq_getD_getElem?,Array.getElem?_setIfInBounds];by_cases e:d=t
 · subst e;simp[h]
 · rw[if_neg e,if_neg (λh=>e h.symm)]
def Hm(N:Nat)(d:Option Tmp):Bool:=match d with
 |none=>true
 |some d=>Nat.blt d N
theorem FR.put{μ:Mu}{N:Nat}{f:FT}{a:Act}(r:FR μ N D f a){b:Option Tmp}(c:Hm N b=true){av:U}{v:Value}(d:VR μ av v):FR μ N D (BS f b av) (a.put b v):=by
 cases b with
 |none=>exact r
 |some b=>
  have c:b<N:=by simpa[Hm] using c
  refine⟨by simpa[Act.put] using r.size,λt=>?_,r.defs⟩;show VR μ (Aq f b av t) ((a.tmps.setIfInBounds b v).getD t undef);rw[EE,UC _ _ _ _ (vZ c r.size)];by_cases e:t=b
  · rw[if_pos e,if_pos e];exact d
  · rw[if_neg e,if_neg e];exact r.get t
theorem FR.eval{E:Env}{μ:Mu}{N G:Nat}{f:FT}{a:Act}(r:FR μ N D f a)(b:DE μ G){o:Operand}(c:CS G o=true):VR μ (eval' E o f) (a.eval o):=
 Ot (C:=CP E) b c λt _=>r.get t
def Er(P:Program)(E:Env)(N G:Nat)(o:Oper):Bool:=Hm N o.dst&&Lz P E G o.op
def yb(o:Option Value):Option Bool:=match o with
 |some (.bool b)=>some b
 |_=>none
theorem F8(a:Array Oper)(ts:Array Value)(j:Nat):yielded a ts j=yb (((a[j]?).bind (·.dst)).bind (ts[·]?)):=rfl
def Live(b:Array Oper)(gs:List (Nat×Bool×Tmp))(a:Act):Prop:=∀c∈gs,((b[c.1]?).bind (·.dst))=some c.2.2∧yb (a.tmps[c.2.2]?)=some c.2.1
def IQ(d:Option Tmp)(gs:List (Nat×Bool×Tmp)):Bool:=match d with
 |none=>true
 |some d=>gs.all λg=>!Nat.beq g.2.2 d
theorem Act.LV(a:Act)(d:Option Tmp)(v:Value):(a.put d v).tmps.size=a.tmps.size:=by cases d<;>simp[Act.put]
theorem Ga{a:Act}{d:Option Tmp}{v:Value}{t:Nat}(h:d≠some t):(a.put d v).tmps[t]? =a.tmps[t]? :=by
 cases d with
 |none=>rfl
 |some d=>have:d≠t:=λe=>h (by rw[e]);simp[Act.put,Array.getElem?_setIfInBounds_ne this]
theorem Jh{a:Option Tmp}{gs:List (Nat×Bool×Tmp)}(b:IQ a gs=true):∀c∈gs,a≠some c.2.2:=by intro c d e;subst e;have:=wm.1 (show gs.all (λf=>!Nat.beq f.2.2 c.2.2)=true from b) c d;simp at this
theorem Live.put{b:Array Oper}{gs:List (Nat×Bool×Tmp)}{a:Act}(l:Live b gs a){c:Option Tmp}(h:IQ c gs=true)(v:Value):Live b gs (a.put c v):=λd f=>
 ⟨(l d f).1,by rw[Ga (Jh h d f)];exact(l d f).2⟩
theorem GK{a b:Option (Nat×Bool)}(c:Dn a b=true):a=b:=by
 have d:∀v w,Dn.beqB' v w=true→v=w:=by intro v w;cases v<;>cases w<;>simp[Dn.beqB']
 cases a with
 |none=>cases b with
  |none=>rfl
  |some=>cases c
 |some p=>cases b with
  |none=>cases c
  |some q=>obtain⟨f,v⟩:=p;obtain⟨j,w⟩:=q;have c:(vS f j&&Dn.beqB' v w)=true:=c;rw[vK] at c;rw[vW c.1,d _ _ c.2]
def Ug(o:Operand):Bool:=match o with
 |.const _=>true
 |_=>false
def uD(a:Operand)(b:Tmp):Bool:=match a with
 |.tmp t=>vS t b
 |_=>false
def Iu(G:Nat)(a:Tmp)(b:Bool)(o:Op):Bool:=match o with
 |.pick c x d=>uD c a&&CS G x&&CS G d&&Ug (Cw b d x)
 |_=>false
def YS(t:Tmp)(l:List (Option Tmp)):Bool:=l.any λd=>match d with
 |some d=>vS d t
 |none=>false
def EB(P:Program)(a:Env)(N G:Nat)(b:List Oper)(BG:J0):Option (Nat×Bool)→List (Nat×Bool×Tmp)→List (Option Tmp)→Bool:=J0.rec (motive:=λ_=>Option (Nat×Bool)→List (Nat×Bool×Tmp)→List (Option Tmp)→Bool)
 (λ_ _ _=>true)
 (λo _ c d gs f=>and (and (Er P a N G o) (and (Dn o.guard d) (IQ o.dst gs))) (c d gs (o.dst::f)))
 (λj g h _ pk _ i k d gs f=>and (and (and (Hm N pk.dst) (and (Dn pk.guard d) (IQ pk.dst gs))) (and (Iu G g h pk.op) (and (YS g f) (wz false (λo=>wz false (λl=>vS l g) o.dst) (Cj b j)))))
  (and (i (some (j,h)) ((j,h,g)::gs) []) (k d gs (pk.dst::f)))) BG
def CN(l:List Oper)(a:Act):Act:=l.foldl (λa o=>a.put o.dst undef) a
theorem Gw(o:Oper)(l:List Oper)(a:Act):CN (o::l) a=CN l (a.put o.dst undef):=rfl
theorem Ro(l m:List Oper)(a:Act):CN (l++m) a=CN m (CN l a):=List.foldl_append ..
theorem Ka(l:List Oper):∀a:Act,(CN l a).tmps.size=a.tmps.size:=by
 induction l with
 |nil=>intro a;rfl
 |cons o l b=>intro a;rw[Gw,b,Act.LV]
theorem Ry(l:List Oper):∀a:Act,(CN l a).defers=a.defers:=by
 induction l with
 |nil=>intro a;rfl
 |cons o l b=>intro a;rw[Gw,b];cases o.dst<;>rfl
theorem Rq{l:List Oper}{t:Nat}:∀{a:Act},(∀o∈l,o.dst≠some t)→(CN l a).tmps[t]? =a.tmps[t]? :=by
 induction l with
 |nil=>intro a _;rfl
 |cons o l b=>intro a c;rw[Gw,b (λx d=>c x (by simp[d])),Ga (c o (by simp))]
theorem MN{a:Act}{d:Option Tmp}{t:Nat}(h:a.tmps[t]? =some undef):(a.put d undef).tmps[t]? =some undef:=by
 cases d with
 |none=>exact h
 |some d=>
  by_cases e:d=t
  · subst e;have:d<a.tmps.size:=(Array.getElem?_eq_some_iff.1 h).1;simp[Act.put,this]
  · rw[Ga (by simpa using e)];exact h
theorem TX{l:List Oper}{t:Nat}:∀{a:Act},a.tmps[t]? =some undef→(CN l a).tmps[t]? =some undef:=by
 induction l with
 |nil=>intro a b;exact b
 |cons o l c=>intro a b;rw[Gw];exact c (MN b)
theorem UK{a:Act}{d:Tmp}{v:Value}(h:d<a.tmps.size):(a.put (some d) v).tmps[d]? =some v:=by simp[Act.put,h]
variable{E:Env}{N G:Nat}{ops:Array Oper}{Q:Exit→Act→World→Prop}
theorem G9:∀{BG:J0}{a:Option (Nat×Bool)}{gs:List (Nat×Bool×Tmp)}{b:List (Option Tmp)},EB P E N G ops.toList BG a gs b=true→∀o∈BG.flat,Hm N o.dst=true∧∀x∈gs,o.dst≠some x.2.2
 |.nil,_,_,_,_,o,c=>by simp[J0.flat] at c
 |.op o r,a,gs,b,d,x,f=>by
  have d:(((Er P E N G o)&&(Dn o.guard a&&IQ o.dst gs))&&EB P E N G ops.toList r a gs (o.dst::b))=true:=d;simp only[vK] at d;rcases vw.1 (show x∈o::r.flat from f) with rfl|f
  · refine⟨?_,Jh d.1.2.2⟩;have:=d.1.1;simp only[Er,vK] at this;exact this.1
  · exact G9 d.2 x f
 |.Mm j g w h pk r,a,gs,b,d,x,f=>by
  have d:(((Hm N pk.dst)&&(Dn pk.guard a&&IQ pk.dst gs))&&(Iu G g w pk.op&&(YS g b&&_))&&(EB P E N G ops.toList h (some (j,w)) ((j,w,g)::gs) []&&EB P E N G ops.toList r a gs (pk.dst::b)))=true:=d;simp only[vK] at d;rcases List.mem_append.1 (show x∈h.flat++pk::r.flat from f) with f|f
  · have:=G9 d.2.1 x f;exact⟨this.1,λi k=>this.2 i (by simp[k])⟩
  · rcases vw.1 f with rfl|f
    · exact⟨d.1.1.1,Jh d.1.1.2.2⟩
    · exact G9 d.2.2 x f
theorem jK{t:Tmp}{l:List (Option Tmp)}(a:YS t l=true):some t∈l:=by
 obtain⟨b,c,a⟩:=List.any_eq_true.1 a;cases b with
 |none=>cases a
 |some b=>rw[vW a] at c;exact c
theorem NO{b:Option Nat}:∀{BG:J0}{j:Nat}{w:Bool}{c:Tmp}{gs:List (Nat×Bool×Tmp)}{d:List (Option Tmp)}{f:List Oper}{a:Act}{wd:World},EB P E N G ops.toList BG (some (j,w)) ((j,w,c)::gs) d=true→N≤a.tmps.size→
    ((ops[j]?).bind (·.dst))=some c→yb (a.tmps[c]?)≠some w→(∀t,some t∈d→a.tmps[t]? =some undef)→wpListIn (Fo b) 0 P ops Q f (CN BG.flat a) wd→wpListIn (Fo b) 0 P ops Q (BG.flat++f) a wd
  |.nil,_,_,_,_,_,_,_,_,_,_,_,_,_,g=>g
  |.op o r,j,w,c,gs,d,f,a,wd,h,i,k,l,m,g=>by
    have h:(((Er P E N G o)&&(Dn o.guard (some (j,w))&&IQ o.dst ((j,w,c)::gs)))&&EB P E N G ops.toList r (some (j,w)) ((j,w,c)::gs) (o.dst::d))=true:=h;simp only[vK] at h;have n:Region.wanted o (yielded ops a.tmps)=false:=by unfold Region.wanted;rw[GK h.1.2.1];show(yielded ops a.tmps j==some w)=false;rw[F8,k];simpa using l
    show wpListIn (Fo b) 0 P ops Q (o::(r.flat++f)) a wd;unfold wpListIn;rw[n,if_neg (by simp)];refine⟨λ_ _=>trivial,?_⟩;have p:=Jh h.1.2.2 (j,w,c) (by simp);refine NO h.2 (by rw[Act.LV];exact i) k (by rw[Ga p];exact l) ?_ g;intro t q;rcases vw.1 q with e|q
    · rw[←e];refine UK (vZ ?_ i);have:=h.1.1;simp only[Er,vK] at this;rw[←e] at this;simpa[Hm] using this.1
    · exact MN (m t q)
  |.Mm s u v x pk r,j,w,c,gs,d,f,a,wd,h,i,k,l,m,g=>by
    have h:(((Hm N pk.dst)&&(Dn pk.guard (some (j,w))&&IQ pk.dst ((j,w,c)::gs)))&&(Iu G u v pk.op&&(YS u d&&(wz false (λo=>wz false (λy=>vS y u) o.dst) (Cj ops.toList s))))
      &&(EB P E N G ops.toList x (some (s,v)) ((s,v,u)::(j,w,c)::gs) []&&EB P E N G ops.toList r (some (j,w)) ((j,w,c)::gs) (pk.dst::d)))=true:=h
    simp only[vK] at h;obtain⟨⟨⟨d,a0,a1⟩,a2,q,a3⟩,a4,a5⟩:=h;have h:((ops[s]?).bind (·.dst))=some u:=by
      rw[CU,Array.getElem?_toList] at a3;cases a2:ops[s]? with
      |none=>rw[a2] at a3;cases a3
      |some o=>
        rw[a2] at a3;have a3:(wz false (λy=>vS y u) o.dst:Bool)=true:=a3;show o.dst=some u;cases a6:o.dst with
        |none=>rw[a6] at a3;cases a3
        |some y=>rw[a6] at a3;rw[vW a3]
    have y:=m u (jK q);show wpListIn (Fo b) 0 P ops Q ((x.flat++pk::r.flat)++f) a wd;rw[vp];refine NO a4 i h (by rw[y];simp[yb,undef]) (by simp) ?_;have h:=G9 a4;have y:(CN x.flat a).tmps[c]? =a.tmps[c]? :=Rq λo a2=>(h o a2).2 (j,w,c) (by simp);have n:Region.wanted pk (yielded ops (CN x.flat a).tmps)=false:=by unfold Region.wanted;rw[GK a0];show(yielded ops (CN x.flat a).tmps j==some w)=false;rw[F8,k];show(yb ((CN x.flat a).tmps[c]?)==some w)=false;rw[y];simpa using l
    show wpListIn (Fo b) 0 P ops Q (pk::(r.flat++f)) _ wd;unfold wpListIn;rw[n,if_neg (by simp)];refine⟨λ_ _=>trivial,?_⟩;have p:=Jh a1 (j,w,c) (by simp);refine NO a5 (by rw[Act.LV,Ka];exact i) k (by rw[Ga p,y];exact l) ?_ ?_
    · intro t q;rcases vw.1 q with e|q
      · rw[←e];refine UK (vZ ?_ (by rw[Ka];exact i));rw[←e] at d;simpa[Hm] using d
      · exact MN (TX (m t q))
    · have:CN (J0.Mm s u v x pk r).flat a=CN r.flat ((CN x.flat a).put pk.dst undef):=by show CN (x.flat++pk::r.flat) a=_;rw[Ro,Gw]
      rw[←this];exact g
end
end Go.Den
namespace Go.Den
open Go.RowKit
section
variable{P:Program}{E:Env}{N G:Nat}{D:List Deferred}{ops:Array Oper}{Q:Exit→Act→World→Prop}
def Dg(l:List Oper)(a b:Act):Prop:=b.tmps.size=a.tmps.size∧∀t,(∀o∈l,o.dst≠some t)→b.tmps[t]? =a.tmps[t]?
theorem Dg.refl(l:List Oper)(a:Act):Dg l a a:=⟨rfl,λ_ _=>rfl⟩
theorem Dg.cons{o:Oper}{l:List Oper}{a b:Act}{v:Value}(c:Dg l (a.put o.dst v) b):Dg (o::l) a b:=
 ⟨c.1.trans (Act.LV _ _ _),λt d=>(c.2 t λx f=>d x (by simp[f])).trans (Ga (d o (by simp)))⟩
theorem Dg.append{l c:List Oper}{a d b:Act}(f:Dg l a d)(g:Dg c d b):Dg (l++c) a b:=
 ⟨g.1.trans f.1,λt h=>(g.2 t λx i=>h x (by simp[i])).trans (f.2 t λx i=>h x (by simp[i]))⟩
theorem Dg.CN(l:List Oper)(a:Act):Dg l a (CN l a):=⟨Ka l a,λ_ b=>Rq b⟩
theorem ke(l:List Oper):∀(f:FT)(t:Nat),My l f t=.top∨(My l f t=f t∧∀o∈l,o.dst≠some t):=by
 induction l with
 |nil=>intro f t;exact .inr ⟨rfl,by simp⟩
 |cons o l a=>
  intro f t;show My l (BS f o.dst .top) t=.top∨(My l (BS f o.dst .top) t=f t∧_);rcases a (BS f o.dst .top) t with b|⟨b,c⟩
  · exact .inl b
  · rw[b];cases d:o.dst with
    |none=>exact .inr ⟨rfl,by
     intro x g;rcases vw.1 g with rfl|g;· rw[d];simp
     · exact c x g⟩
    |some h=>
     show Aq f h .top t=.top∨_;rw[EE];by_cases e:t=h
     · left;rw[if_pos e]
     · right;refine⟨by rw[show BS f (some h) U.top t=Aq f h .top t from rfl,EE,if_neg e],?_⟩;intro x g;rcases vw.1 g with rfl|g
       · rw[d];simpa using λb=>e b.symm
       · exact c x g
theorem FR.top{μ:Mu}{f:FT}{a b:Act}{l:List Oper}(r:FR μ N D f a)(c:Dg l a b)(d:b.defers=D):FR μ N D (My l f) b:=by
 refine⟨by rw[c.1];exact r.size,λt=>?_,d⟩;rcases ke l f t with g|⟨g,h⟩
 · rw[g];trivial
 · rw[g];have:=r.get t;rw[Array.getD_eq_getD_getElem?] at this ⊢;rw[c.2 t h];exact this
def Pd(gs:List (Nat×Bool×Tmp)):Option (Nat×Bool):=match gs with
 |[]=>none
 |g::_=>some (g.1,g.2.1)
theorem JD{o:Oper}{gs:List (Nat×Bool×Tmp)}{a:Act}(b:o.guard=Pd gs)(l:Live ops gs a):Region.wanted o (yielded ops a.tmps)=true:=by
 unfold Region.wanted;rw[b];cases gs with
 |nil=>rfl
 |cons c gs=>obtain⟨d,f⟩:=l c (by simp);show(yielded ops a.tmps c.1==some c.2.1)=true;rw[F8,d];show(yb (a.tmps[c.2.2]?)==some c.2.1)=true;rw[f];simp
theorem YB{b:Option Nat}{pk:Oper}{c x d:Operand}(f:pk.op=.pick c x d){a:Act}{w:World}{t:Bool}(g:a.eval c=.bool t){next:Act→World→Prop}(h:next (a.put pk.dst (a.eval (Cw t x d))) w):pk.wpIn (Fo b) 0 P a w next Q:=by
 have:(execOp a.eval pk).run P w=.ok (.value (a.eval (Cw t x d))) w:=by unfold execOp;rw[f];simp only[g];cases t<;>rfl
 refine Ff (λc e=>by rw[f] at e;cases e) ?_;rw[this];exact h
theorem PC{a:Tmp}{b:Bool}{o:Op}(c:Iu G a b o=true):∃x d v,o=.pick (.tmp a) x d∧CS G x=true∧CS G d=true∧Cw b d x=.const v:=by
 cases o<;>try cases c
 rename_i f x d;have c:(uD f a&&CS G x&&CS G d&&Ug (Cw b d x))=true:=c;simp only[vK] at c;obtain⟨⟨⟨g,h⟩,i⟩,j⟩:=c;cases f<;>try cases g
 rename_i t;have e:=vW g;subst e;cases k:Cw b d x<;>rw[k] at j<;>first|exact⟨x,d,_,rfl,by assumption,by assumption,k⟩|cases j
theorem Lt{w:Bool}{x a:Operand}(b:CS G x=true)(c:CS G a=true):CS G (Cw w x a)=true:=by cases w<;>assumption
theorem Live.same{gs:List (Nat×Bool×Tmp)}{a b:Act}{l:List Oper}(c:Live ops gs a)(d:Dg l a b)(f:∀o∈l,∀g∈gs,o.dst≠some g.2.2):Live ops gs b:=λg h=>
 ⟨(c g h).1,by rw[d.2 g.2.2 λo i=>f o i g h];exact(c g h).2⟩
def Bgk(_P:Program)(N:Nat)(D:List Deferred)(ops:Array Oper)(gs:List (Nat×Bool×Tmp))(BG:J0)(μ:Mu)(b:H)(a:Act)(c:World)(K:FT→H→Prop)(q:Act→World→Prop):Prop:=
 ∀(d:Mu)(f:FT)(g:H)(h:Act)(i:World),FR d N D f h→Bc d g i→BF μ b c d g i→Live ops gs h→Dg BG.flat a h→K f g→q h i
theorem kD{b:Option Nat}(c:Bt P E){d:CF}(g:C4 P (CP E) G (λp=>p) d){o:Oper}(h:Lz P E G o.op=true){μ:Mu}{f:FT}{i:H}{a:Act}{j:World}{k:KV}{next:Act→World→Prop}{Q:Exit→Act→World→Prop}
 (l:∀x∈o.op.operands.toList,VR μ (eval (CP E) x f) (a.eval x)) (m:Bc μ i j) (n:DE μ G) (q:dU E o.op d f i k) (r:Pn (CP E) μ i j (λp=>p) k a o.dst next):o.wpIn (Fo b) 0 P a j next Q:=by
 by_cases s:∃x,o.op=.next x false
 · obtain⟨x,e⟩:=s;rw[e] at q;obtain⟨v,t,u,av,w,y,b,j,a0,a1⟩:=jz (P:=P) (ty:=o.type) m (show dJ (eval' E x f) i k from q) (l x (by rw[e];simp[Op.operands]));refine Ff (λt u=>by rw[e] at u;cases u) ?_;have w:execOp a.eval o=(do pure (.value (←Instr.next (a.eval x) false o.type))):=by obtain⟨t,op,u,pos,a2,a3⟩:=o;cases e;rfl
   rw[w,Aa y];exact r _ _ _ _ _ b j a0 a1
 · have t:Ck E o.op d f i k:=by
    cases u:o.op<;>rw[u] at q<;>try exact q
    rename_i x w;cases w with
    |true=>exact q
    |false=>exact absurd ⟨x,u⟩ s
   exact TT (C:=CP E) (good:=λp=>p) (λi=>i) c g h l m n (OS t) r
theorem Mg{ro:Option Nat}(b6:Bt P E){i:CF}(b0:C4 P (CP E) G (λp=>p) i):∀(BG:J0){gs:List (Nat×Bool×Tmp)}{a2:List (Option Tmp)},EB P E N G ops.toList BG (Pd gs) gs a2=true→
    ∀{μ:Mu}{f:FT}{c:H}{a:Act}{w:World}{K:FT→H→Prop}{rest:List Oper},FR μ N D f a→Bc μ c w→DE μ G→Live ops gs a→DL E i BG f c K→Bgk P N D ops gs BG μ c a w K (wpListIn (Fo ro) 0 P ops Q rest)→wpListIn (Fo ro) 0 P ops Q (BG.flat++rest) a w
  |.nil,gs,a2,_,μ,f,c,a,w,K,rest,fr,a6,_,l,d,a3=>a3 μ f c a w fr a6 (.refl _ _ _) l (.refl _ _) d
  |.op o r,gs,a2,q,μ,f,c,a,w,K,rest,fr,a6,m,l,d,a3=>by
    have q:(((Er P E N G o)&&(Dn o.guard (Pd gs)&&IQ o.dst gs))&&EB P E N G ops.toList r (Pd gs) gs (o.dst::a2))=true:=q;simp only[vK,Er] at q;obtain⟨⟨⟨c0,b1⟩,c1,c2⟩,c3⟩:=q;have d:dU E o.op i f c (λv c=>PV E o.type v (λv=>DL E i r (BS f o.dst v) c K)):=d;have f2:∀x∈o.op.operands.toList,CS G x=true:=by have b1:=b1;simp only[Lz,vK] at b1;exact λx a5=>(wm.1 b1.1) x a5
    show wpListIn (Fo ro) 0 P ops Q (o::(r.flat++rest)) a w;unfold wpListIn;rw[JD (GK c1) l,if_pos rfl];refine kD b6 b0 b1 (λx a5=>fr.eval m (f2 x a5)) a6 m d ?_;intro e7 av c6 v e5 d2 y b3 n;refine Mg b6 b0 r c3 ((fr.mono y.le).put c0 b3) d2 (m.mono y.le) (l.put c2 v) (Kv n) ?_;intro e8 d6 d8 d4 e6 a7 b7 b8 b5 s a1;exact a3 _ _ _ _ _ a7 b7 (y.trans b8) b5 (Dg.cons s) a1
  |.Mm j b h g pk r,gs,a2,q,μ,f,c,a,w,K,rest,fr,a6,m,l,d,a3=>by
    have q:(((Hm N pk.dst)&&(Dn pk.guard (Pd gs)&&IQ pk.dst gs))&&(Iu G b h pk.op&&(YS b a2&&(wz false (λo=>wz false (λb9=>vS b9 b) o.dst) (Cj ops.toList j))))
      &&(EB P E N G ops.toList g (some (j,h)) ((j,h,b)::gs) []&&EB P E N G ops.toList r (Pd gs) gs (pk.dst::a2)))=true:=q
    simp only[vK] at q;obtain⟨⟨⟨c0,c1,c2⟩,f3,_,k⟩,c8,c3⟩:=q;have e0:((ops[j]?).bind (·.dst))=some b:=by
      rw[CU,Array.getElem?_toList] at k;cases a4:ops[j]? with
      |none=>rw[a4] at k;cases k
      |some o=>
        rw[a4] at k;have k:(wz false (λb9=>vS b9 b) o.dst:Bool)=true:=k;show o.dst=some b;cases e1:o.dst with
        |none=>rw[e1] at k;cases k
        |some b9=>rw[e1] at k;rw[vW k]
    obtain⟨x,u,f5,c5,a5,e2,f0⟩:=PC f3;obtain⟨t,f1,d⟩:=Ec (show Be (f b) (λt=>Aeh E h g.flat pk t (DL E i g) (DL E i r) f c K) from d);have b4:a.tmps.getD b undef=.bool t:=by have:=fr.get b;rw[f1] at this;exact this
    have d1:a.tmps[b]? =some (.bool t):=by
      rw[Array.getD_eq_getD_getElem?] at b4;cases b2:a.tmps[b]? with
      |none=>rw[b2] at b4;cases b4
      |some v=>rw[b2] at b4;exact congrArg some b4
    have d:AM (λe3=>gate h t (DL E i g f c (λf c=>Be (eval' E (Cw h x u) f) (λv=>e3 v c))) (Be (eval' E (Cw h u x) f) (λv=>e3 v c)))
        (λv c=>DL E i r (BS (My g.flat f) pk.dst (.bool v)) c K):=by
      unfold Aeh at d;rw[c5] at d;exact d
    have d9:=G9 c8;show wpListIn (Fo ro) 0 P ops Q ((g.flat++pk::r.flat)++rest) a w;rw[vp];by_cases c4:t=h
    · subst c4;have d:DL E i g f c (λd5 c6=>Be (eval' E (Cw t x u) d5) (λv=>DL E i r (BS (My g.flat f) pk.dst (.bool v)) c6 K)):=by cases t<;>exact d
      refine Mg b6 b0 g (gs:=(j,t,b)::gs) c8 fr a6 m ?_ d ?_
      · intro a8 n;rcases vw.1 n with rfl|n
        · exact⟨e0,by show yb (a.tmps[b]?)=some t;rw[d1];rfl⟩
        · exact l a8 n
      · intro e7 d5 c6 a0 e5 d7 d2 y e4 s a1;obtain⟨v,b3,a1⟩:=Ec a1;have lo:Live ops gs a0:=λa8 n=>e4 a8 (by simp[n]);show wpListIn (Fo ro) 0 P ops Q (pk::(r.flat++rest)) a0 e5;unfold wpListIn;rw[JD (GK c1) lo,if_pos rfl];have c9:a0.eval (.tmp b)=.bool t:=by
          have:=(e4 (j,t,b) (by simp)).2;have a9:yb (a0.tmps[b]?)=some t:=this;show a0.tmps.getD b undef=.bool t;rw[Array.getD_eq_getD_getElem?];cases b2:a0.tmps[b]? with
          |none=>rw[b2] at a9;cases a9
          |some f4=>rw[b2] at a9;cases f4<;>simp[yb] at a9;subst a9;rfl
        have d0:a0.eval (Cw t x u)=.bool v:=by have:=d7.eval (E:=E) (m.mono y.le) (Lt (w:=t) a5 e2);rw[b3] at this;exact this
        refine YB c5 c9 ?_;rw[d0];refine Mg b6 b0 r c3 (((fr.mono y.le).top s d7.defs).put c0 (av:=.bool v) (rfl:VR e7 (.bool v) (.bool v))) d2 (m.mono y.le) (lo.put c2 _) a1 ?_;intro e8 d6 d8 d4 e6 a7 b7 b8 b5 d3 c7;exact a3 _ _ _ _ _ a7 b7 (y.trans b8) b5 (s.append (Dg.cons d3)) c7
    · have d:Be (eval' E (Cw h u x) f) (λv=>DL E i r (BS (My g.flat f) pk.dst (.bool v)) c K):=by cases t<;>cases h<;>first|exact d|exact absurd rfl c4
      obtain⟨v,b3,a1⟩:=Ec d;refine NO c8 fr.size e0 (by rw[d1];simpa[yb] using c4) (by simp) ?_;have s:Dg g.flat a (CN g.flat a):=.CN _ _;have lo:Live ops gs (CN g.flat a):=l.same s λo a4 a8 n=>(d9 o a4).2 a8 (by simp[n]);show wpListIn (Fo ro) 0 P ops Q (pk::(r.flat++rest)) _ w;unfold wpListIn;rw[JD (GK c1) lo,if_pos rfl];have c9:(CN g.flat a).eval (.tmp b)=.bool t:=by show(CN g.flat a).tmps.getD b undef=.bool t;rw[Array.getD_eq_getD_getElem?,s.2 b λo a4=>(d9 o a4).2 (j,h,b) (by simp),d1];rfl
      have e9:Cw t x u=Cw h u x:=by cases t<;>cases h<;>first|rfl|exact absurd rfl c4
      have d0:(CN g.flat a).eval (Cw t x u)=.bool v:=by have:=fr.eval (E:=E) m (Lt (w:=h) e2 a5);rw[b3] at this;have this:a.eval (Cw h u x)=.bool v:=this;rw[e9,f0] at*;exact this
      refine YB c5 c9 ?_;rw[d0];refine Mg b6 b0 r c3 ((fr.top s (by rw[Ry];exact fr.defs)).put c0 (av:=.bool v) (rfl:VR μ (.bool v) (.bool v))) a6 m (lo.put c2 _) a1 ?_;intro e8 d6 d8 d4 e6 a7 b7 b8 b5 d3 c7;exact a3 _ _ _ _ _ a7 b7 b8 b5 (s.append (Dg.cons d3)) c7
theorem PO(a:List Oper):∀(n:Nat)(b:Option (Nat×Bool))(l:List Oper),(EN a n b l).1.flat++(EN a n b l).2=l:=by
 intro n;induction n with
 |zero=>intro b l;rfl
 |succ n c=>
  intro b l;cases l with
  |nil=>rfl
  |cons o d=>
   show(L4 a (EN a n) b (o::d)).1.flat++(L4 a (EN a n) b (o::d)).2=o::d;unfold L4;simp only;cases f:Dn o.guard b with
   |true=>simp only;have:=c b d;generalize EN a n b d=q at this ⊢;obtain⟨g,h⟩:=q;show o::(g.flat++h)=o::d;rw[this]
   |false=>
    simp only;cases i:o.guard with
    |none=>rfl
    |some p=>
     simp only;cases iX a b p.1 with
     |none=>rfl
     |some j=>
      simp only;have k:=c (some p) (o::d);generalize EN a n (some p) (o::d)=q at k ⊢;obtain⟨g,h⟩:=q;cases h with
      |nil=>rfl
      |cons pk m=>simp only;have r:=c b m;generalize EN a n b m=z at r ⊢;obtain⟨s,t⟩:=z;show(g.flat++pk::s.flat)++t=o::d;rw[←k,←r];simp
theorem aA{l:List Oper}{BG:J0}(a:ML l=some BG):BG.flat=l:=by
 unfold ML at a;have b:=PO l (vN (vO 2 (len l)) 2) none l;generalize EN l (vN (vO 2 (len l)) 2) none l=q at a b;obtain⟨c,d⟩:=q;cases d with
 |nil=>cases a;simpa using b
 |cons=>cases a
end
end Go.Den
