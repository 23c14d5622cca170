/-
 Proof.
-/
import GoSem.Dispatch
import GoSem.Step
import Derived.KernelRfl
import Derived.WalkKit
import Derived.Tactics
import Derived.Laws.Shifts
import Derived.Laws.StructEq
import Derived.Laws.Concat
open Nat renaming add → vN, mul → vO, rec → vP, sub → vQ, div → vR, beq → vS, mod → vT, ble → vU, shiftRight → vV, eq_of_beq_eq_true → vW, le_of_ble_eq_true → vX, le_refl → vE, le_trans → vY, lt_of_lt_of_le → vZ, sub_zero → we
open Bool renaming rec → wg
open List renaming rec → wj, length_cons → l6, getD_eq_getElem?_getD → vM, all_eq_true → wm, getElem_of_mem → wo, getElem?_eq_getElem → wq, getElem_mem → wu
open Int renaming rec → wv
open Option renaming rec → wz, none → wA
noncomputable section
namespace Go.Den
inductive Tr (α:Type) where
 |e
 |n (l:Tr α) (v:α) (r:Tr α)
inductive P where
 |z
 |l (p:P)
 |r (p:P)
namespace P
def succ(p:P):P:=P.rec (.l .z) (λp _=>.r p) (λ_ a=>.l a) p
def beq(p:P):P→Bool:=P.rec (motive:=λ_=>P→Bool) (λq=>P.rec true (λ_ _=>false) (λ_ _=>false) q)
 (λ_ a q=>P.rec false (λq _=>a q) (λ_ _=>false) q) (λ_ a q=>P.rec false (λ_ _=>false) (λq _=>a q) q) p
def nat(p:P):Nat:=P.rec 0 (λ_ n=>vN (vO 2 n) 1) (λ_ n=>vN (vO 2 n) 2) p
end P
def CH(n:Nat):P:=vP .z (λ_ a=>P.succ a) n
namespace Tr
variable{α:Type}
def get(a:α)(t:Tr α):P→α:=Tr.rec (motive:=λ_=>P→α) (λ_=>a)
 (λ_ w _ b c p=>P.rec w (λp _=>b p) (λp _=>c p) p) t
def one(a v:α)(p:P):Tr α:=P.rec (.n .e v .e) (λ_ b=>.n b a .e) (λ_ b=>.n .e a b) p
def set(a v:α)(t:Tr α):P→Tr α:=Tr.rec (motive:=λ_=>P→Tr α) (λp=>one a v p)
 (λl b r c d p=>P.rec (Tr.n l v r) (λp _=>Tr.n (c p) b r) (λp _=>Tr.n l b (d p)) p) t
def EY(a:α)(t:Tr α):Nat→α:=Tr.rec (motive:=λ_=>Nat→α) (λ_=>a)
 (λ_ b _ c d f=>wg (wg (d (vQ (vR f 2) 1)) (c (vR f 2)) (vS (vT f 2) 1)) b (vS f 0)) t
def RE(a v:α)(f:Nat):Nat→Tr α:=vP (motive:=λ_=>Nat→Tr α) (λ_=>.e)
 (λ_ b c=>wg (wg (Tr.n .e a (b (vQ (vR c 2) 1))) (Tr.n (b (vR c 2)) a .e) (vS (vT c 2) 1)) (Tr.n .e v .e) (vS c 0)) f
def Mt(a v:α)(t:Tr α):Nat→Tr α:=Tr.rec (motive:=λ_=>Nat→Tr α) (λb=>RE a v (vN b 1) b)
 (λl c r d f b=>wg (wg (Tr.n l c (f (vQ (vR b 2) 1))) (Tr.n (d (vR b 2)) c r) (vS (vT b 2) 1)) (Tr.n l v r) (vS b 0)) t
def ofList(a:α)(l:List α):P→Tr α→Tr α:=wj (motive:=λ_=>P→Tr α→Tr α) (λ_ t=>t)
 (λv _ b c t=>b c.succ (set a v t c)) l
end Tr
inductive U where
 |bool (b:Bool)
 |int (k:IntKind) (n:Int)
 |str (len code:Nat)
 |Bn
 |ptr (b:P) (off:Nat)
 |Af
 |slice (b:P) (off len sz:Nat) (tight:Bool)
 |GH
 |map (b:P)
 |func (fn:Fn) (first captured:List U)
 |IK
 |iface (t:TypeId) (v:U)
 |FC
 |agg (cells:List U)
 |tuple (vs:List U)
 |top
 deriving Inhabited
def U.undef:U:=.tuple []
def U.cells:U→List U
 |.agg cs=>cs
 |.tuple _=>[]
 |.top=>[]
 |v=>[v]
def U.one:U→Bool
 |.agg _=>false
 |.tuple _=>false
 |.top=>false
 |_=>true
section
variable{α:Type}
def FK{a:Type}(t:Tr a)(b:Tr a→α):α:=Tr.rec (b .e) (λl v r _ _=>b (.n l v r)) t
def BB(v:U)(k:U→α):α:=U.rec (motive_1:=λ_=>α) (motive_2:=λ_=>Unit)
 (λb=>k (.bool b)) (λa b=>k (.int a b)) (λa b=>k (.str a b)) (k .Bn) (λb o=>k (.ptr b o)) (k .Af) (λa b c d t=>k (.slice a b c d t)) (k .GH) (λb=>k (.map b))
 (λa b c _ _=>k (.func a b c)) (k .IK) (λa b _=>k (.iface a b)) (k .FC) (λa _=>k (.agg a)) (λa _=>k (.tuple a)) (k .top) () (λ_ _ _ _=>()) v
end
abbrev Tm:=Tr U
def AD(t:Tm)(k:Nat):U:=Tr.EY .undef t k
def uI(t:Tm)(k:Nat)(v:U):Tm:=Tr.Mt .undef v t k
def Ai(l:List U):Nat→Tm→Tm:=wj (motive:=λ_=>Nat→Tm→Tm) (λ_ t=>t) (λv _ a i t=>a (vN i 1) (uI t i v)) l
def len{a:Type}(l:List a):Nat:=wj 0 (λ_ _ b=>vN b 1) l
def Cp(t:Tm)(n:Nat):Nat→List U:=vP (motive:=λ_=>Nat→List U) (λ_=>[]) (λ_ a b=>AD t b::a (vN b 1)) n
def BY(c:Nat→U)(n:Nat):Nat→List U:=vP (motive:=λ_=>Nat→List U) (λ_=>[]) (λ_ a b=>c b::a (vN b 1)) n
structure FI where
 T:Type
 init:List U→T
 get:T→Nat→U
 set:T→Nat→U→T
 force:{α:Type}→T→(T→α)→α
inductive AX where
 |normal
 |exit (id:Nat)
 |goto (l:Nat)
 |ret
structure OX where
 params:List Tmp
 assign:Code
 body:Code
 BP:List (Nat×List Nat)
 n:Nat
inductive Ob (T:Type) where
 |dead
 |row (cells:Tm) (n z:Nat) (e:TypeId) (whole:Bool)
 |ext (cells:Nat→U) (n:Nat)
 |map (es:List (U×U×Nat)) (clock:Nat)
 |iter (len code pos:Nat)
 |loop (tmps:Nat→U) (s:OX) (st:LoopState) (pend:AX)
 |Hq (m:P) (since:Nat) (seen:List Nat) (stepped:Nat)
structure Hp(T:Type) where
 mem:Tr (Ob T)
 next:P
section
variable{T:Type}
def Hp.at(h:Hp T)(b:P):Ob T:=Tr.get .dead h.mem b
def Hp.Bu{a:Type}(b:Hp T)(o:Ob T)(c:P→Hp T→a):a:=Hp.rec (λd n=>FK (Tr.set .dead o d n) (λd=>c n ⟨d,P.succ n⟩)) b
def Hp.Gv{a:Type}(b:Hp T)(c:P)(o:Ob T)(d:Hp T→a):a:=Hp.rec (λf n=>FK (Tr.set .dead o f c) (λf=>d ⟨f,n⟩)) b
def Hp.new(h:Hp T)(o:Ob T):Hp T:=⟨Tr.set .dead o h.mem h.next,P.succ h.next⟩
def Hp.put(h:Hp T)(b:P)(o:Ob T):Hp T:=⟨Tr.set .dead o h.mem b,h.next⟩
def rowOf(e:TypeId)(cs:List U):Ob T:=.row (Ai cs 0 .e) (len cs) 0 e true
def Hp.newRow(h:Hp T)(e:TypeId)(cs:List U):Hp T:=h.new (rowOf e cs)
inductive Gh where
 |no
 |row (cells:Tm) (n z:Nat) (e:TypeId) (whole:Bool)
 |ext (cells:Nat→U) (n:Nat)
def CG(o:Ob T):Gh:=Ob.rec .no (λt n z e w=>.row t n z e w) (λc n=>.ext c n) (λ_ _=>.no) (λ_ _ _=>.no) (λ_ _ _ _=>.no) (λ_ _ _ _=>.no) o
variable{α:Type}
def GJ(a n:Nat)(b:α)(c:List U→α)(t:Tm)(d:Nat):α:=wg b (c (Cp t n a)) (vU (vN a n) d)
def M3(a n:Nat)(b:α)(c:List U→α)(d:Nat→U)(f:Nat):α:=wg b (c (BY d n a)) (vU (vN a n) f)
def Hp.ES(a:Hp T)(b:P)(c n:Nat)(d:α)(f:List U→α):α:=
 Gh.rec d (λt g _ _ _=>GJ c n d f t g) (λh g=>M3 c n d f h g) (CG (a.at b))
def JV(a:Nat)(b:α)(c:U→α)(t:Tm)(d:Nat):α:=wg b (BB (AD t a) c) (vU (vN a 1) d)
def NC(a:Nat)(b:α)(c:U→α)(d:Nat→U)(f:Nat):α:=wg b (BB (d a) c) (vU (vN a 1) f)
def Hp.EP(a:Hp T)(b:P)(c:Nat)(d:α)(f:U→α):α:=
 Gh.rec d (λt g _ _ _=>JV c d f t g) (λh g=>NC c d f h g) (CG (a.at b))
def LA(a:Hp T)(b:P)(off:Nat)(cs:List U)(c:α)(d:Hp T→α)(t:Tm)(f z:Nat)(e:TypeId)(g:Bool):α:=
 wg c (wg c (FK (Ai cs off t) (λt=>a.Gv b (.row t f z e g) d)) (vU (vN off (len cs)) f)) (vU z off)
def Hp.Ew(a:Hp T)(b:P)(off:Nat)(cs:List U)(c:α)(d:Hp T→α):α:=
 Gh.rec c (λt f z e g=>LA a b off cs c d t f z e g) (λ_ _=>c) (CG (a.at b))
end
def Hp.read{T:Type}(h:Hp T)(b:P)(off n:Nat):Option (List U):=h.ES b off n none some
def Hp.E4{a:Type}(c:Hp a)(b:P)(d:Nat):Option U:=c.EP b d none some
def Hp.write{a:Type}(c:Hp a)(b:P)(d:Nat)(cs:List U):Option (Hp a):=c.Ew b d cs none some
structure TI where
 desc:TypeDesc
 size:Nat
 bytes:Nat
 zero:List U
 agg:Bool
 plain:Bool
 ms:List Method
inductive Ext where
 |Fw|nothing|address|indexByte|count|clone
 |Gf (k:IntKind)
 |Fv (k:IntKind)
 |Jc (k:IntKind)
 |Jr (k:IntKind)
 |Wl|Wx|gb
structure Env where
 ext:Tr (Option Ext)
 types:Tr (Option TI)
 funcs:Tr (Option Func)
def Env.ty(E:Env)(t:TypeId):Option TI:=Tr.EY none E.types t
def Env.fn(E:Env)(f:FuncId):Option Func:=Tr.EY none E.funcs f
structure Cx(α:Type) where
 E:Env
 I:FI
 bad:α
def KP(l:List Nat):Nat:=wj 0 (λa _ b=>vN a (vO 256 b)) l
def strOf(s:List Nat):U:=.str (len s) (KP s)
def DD(a b:Nat):Nat:=vT (vV a (vO 8 b)) 256
def Me(a lo hi:Nat):Nat:=vT (vV a (vO 8 lo)) (Nat.pow 2 (vO 8 (vQ hi lo)))
def Nu(l c d:Nat):Nat:=vN c (Nat.shiftLeft d (vO 8 l))
def EC(n:Nat):Nat→List Nat:=vP (motive:=λ_=>Nat→List Nat) (λ_=>[]) (λ_ a b=>vT b 256::a (vR b 256)) n
def byteCells(n:Nat):Nat→List U:=vP (motive:=λ_=>Nat→List U) (λ_=>[]) (λ_ a b=>.int .u8 (.ofNat (vT b 256))::a (vR b 256)) n
def Aiv(l:List UInt8):List Nat:=l.map (·.toNat)
def bytesOf(s:ByteArray):U:=strOf (Aiv s.data.toList)
def HS:Nat→Value→U
 |0,_=>.undef
 |f+1,v=>match v with
  |.bool a=>.bool a
  |.int b n=>.int b n
  |.string c=>bytesOf c
  |.pointer none=>.Bn
  |.slice none 0 0=>.Af
  |.map none=>.GH
  |.nilFunc=>.IK
  |.nilIface=>.FC
  |.agg cs=>.agg (cs.toList.map (HS f))
  |.tuple d=>.tuple (d.toList.map (HS f))
  |_=>.undef
def ofValue(v:Value):U:=HS 3 v
def HR:Nat→Value→Bool
 |0,_=>false
 |f+1,v=>match v with
  |.bool _|.int _ _|.string _|.pointer none|.slice none 0 0|.map none|.nilFunc|.nilIface=>true
  |.agg cs=>cs.toList.all (HR f)&&(cs.toList.map (HS f)).all U.one
  |.tuple a=>a.toList.all (HR f)
  |_=>false
def Ol(v:Value):Bool:=HR 3 v
def intMax:IntKind→Nat
 |.i8=>127|.i16=>32767|.i32=>2147483647|.i64=>9223372036854775807
 |.u8=>255|.u16=>65535|.u32=>4294967295|.u64=>18446744073709551615
def wrap(k:IntKind)(n:Int):Int:=
 wv (λm=>wg (k.wrap (.ofNat m)) (.ofNat m) (vU m (intMax k))) (λm=>k.wrap (.negSucc m)) n
def AW(a b:Int):Int:=wv (λm=>wv (λn=>.ofNat (vN m n)) (λn=>Int.add (.ofNat m) (.negSucc n)) b) (λm=>Int.add (.negSucc m) b) a
def EU(a b:Int):Int:=
 wv (λm=>wv (λn=>wg (.negSucc (vQ (vQ n m) 1)) (.ofNat (vQ m n)) (vU n m)) (λn=>Int.sub (.ofNat m) (.negSucc n)) b) (λm=>Int.sub (.negSucc m) b) a
def AN(a b:Int):Bool:=wv (λm=>wv (λn=>vS m n) (λ_=>false) b) (λm=>wv (λ_=>false) (λn=>vS m n) b) a
def Ba(a b:Int):Bool:=wv (λm=>wv (λn=>vU (vN m 1) n) (λ_=>false) b) (λm=>wv (λ_=>true) (λn=>vU (vN n 1) m) b) a
def CJ(a b:Int):Bool:=wg true false (Ba b a)
def Bm(b:Bool):Bool:=wg true false b
def An(a b:Bool):Bool:=wg false b a
def No(a b:Bool):Bool:=wg (Bm b) b a
def Ho{a:Type}(n:Nat):List a→List a:=vP (motive:=λ_=>List a→List a) (λl=>l) (λ_ b l=>wj [] (λ_ l _=>b l) l) n
def FW{b:Type}(n:Nat):List b→List b:=vP (motive:=λ_=>List b→List b) (λ_=>[]) (λ_ c l=>wj [] (λa l _=>a::c l) l) n
def Cj{b:Type}(l:List b):Nat→Option b:=wj (motive:=λ_=>Nat→Option b) (λ_=>none) (λa _ c n=>vP (some a) (λn _=>c n) n) l
def Eh{b:Type}(l r:List b):List b:=wj r (λa _ c=>a::c) l
def H7(z:List U)(n:Nat):List U:=vP [] (λ_ a=>Eh z a) n
section
variable(E:Env)
def part(t:TypeId)(cs:List U)(a:Nat):Option U:=
 wz none (λb=>wg (Cj cs a) (some (.agg (FW b.size (Ho a cs)))) b.agg) (E.ty t)
section
variable(rec:TypeId→U→U→Option Bool)
def eqFields(b c:List U)(d:List Field):Option Bool:=
 wj (some true) (λf _ g=>wz none (λa=>wz none (λh=>wz none (λt=>wg (some false) g t) (rec f.type a h)) (part E f.type c f.offset)) (part E f.type b f.offset)) d
def NR:List Field→Bool
 |[]=>true
 | f :: r => and (not (f.name == "_")) (NR r)
def structOf(a:TypeDesc):Option (List Field):=match a with
 |.struct b=>some b.toList
 |_=>none
def TJ(a:TI)(b c:List U):Option Bool:=
 wg none (wz none (λd=>wg none (eqFields E rec b c d) (NR d)) (structOf a.desc)) a.plain
end
def jf(y:U):Option Bool:=match y with|.Bn=>some true|.ptr _ _=>some false|_=>none
def Wr(y:U):Option Bool:=match y with|.FC=>some true|.iface _ _=>some false|_=>none
def fG(y:U):Option Bool:=match y with|.Af=>some true|.slice ..=>some false|_=>none
def gf(y:U):Option Bool:=match y with|.GH=>some true|.map _=>some false|_=>none
def iT(y:U):Option Bool:=match y with|.IK=>some true|.func ..=>some false|_=>none
def eqStr(l c:Nat)(y:U):Option Bool:=match y with|.str m d=>some (An (vS l m) (vS c d))|_=>none
def eZ(b:IntKind)(a:Int)(c:U):Option Bool:=match c with|.int d f=>if b=d then some (AN a f) else none|_=>none
def mX(a:Bool)(y:U):Option Bool:=match y with|.bool b=>some (No a b)|_=>none
def RP(a:U):Option (List U):=match a with|.agg b=>some b|_=>none
def DX(d:TypeDesc)(x:U):Bool:=match x with
 |.bool _=>match d with
  |.bool=>true
  |_=>false
 |.int _ _=>match d with
  |.int _=>true
  |_=>false
 |.str _ _=>match d with
  |.string=>true
  |_=>false
 |_=>false
def Iw(x y:U):Option Bool:=match x with
 |.bool a=>mX a y
 |.int k a=>eZ k a y
 |.str l c=>eqStr l c y
 |_=>none
def Adu(rec:TypeId→U→U→Option Bool)(a:TI)(x b:U):Option Bool:=match x with
 |.agg c=>wz none (λd=>TJ E rec a c d) (RP b)
 |x=>wg none (Iw x b) (DX a.desc x)
def ez(n:Nat):TypeId→U→U→Option Bool:=vP (motive:=λ_=>TypeId→U→U→Option Bool) (λ_ _ _=>none)
 (λ_ a t x b=>wz none (λc=>Adu E a c x b) (E.ty t)) n
end
end Go.Den
namespace Go.Den
section
variable(E:Env)
def uC(e:TypeId)(a:P)(b:Nat)(c:U):Option Bool:=match c with
 |.Bn=>some false
 |.ptr d j=>wg none (wz none (λf=>wg none (some (vS b j)) (vU 1 f.size)) (E.ty e)) (P.beq a d)
 |_=>none
def bE(d:TypeDesc)(x y:U):Option Bool:=match d with
 |.pointer e=>match x with
  |.Bn=>jf y
  |.ptr a i=>uC E e a i y
  |_=>none
 |.interface _=>match x with
  |.FC=>Wr y
  |.iface _ _=>match y with
   |.FC=>some false
   |_=>none
  |_=>none
 |.slice _=>match x with
  |.Af=>fG y
  |.slice ..=>match y with
   |.Af=>some false
   |_=>none
  |_=>none
 |.map _ _=>match x with
  |.GH=>gf y
  |.map _=>match y with
   |.GH=>some false
   |_=>none
  |_=>none
 |.func _ _ _=>match x with
  |.IK=>iT y
  |.func ..=>match y with
   |.IK=>some false
   |_=>none
  |_=>none
 |_=>none
def dz(t:TypeId)(x a:U):Option Bool:=match x with
 |.bool _=>ez E 5 t x a
 |.agg _=>ez E 5 t x a
 |x=>wz none (λb=>bE E b.desc x a) (E.ty t)
def I8(a:List Nat):List Nat→Bool:=wj (motive:=λ_=>List Nat→Bool) (λb=>wj false (λ_ _ _=>true) b)
 (λa _ c b=>wj false (λb r _=>wg (wg false (c r) (vS a b)) true (vU (vN a 1) b)) b) a
def US(k:IntKind)(n:Int):Option U:=some (.int k (wrap k n))
def I0(b:Bool):Option U:=some (.bool b)
def Q8(op:BinOp)(k:IntKind)(a b:Nat):Option U:=match op with
 |.and=>some (.int k (.ofNat (Nat.land a b)))
 |.or=>some (.int k (.ofNat (Nat.lor a b)))
 |.xor=>some (.int k (.ofNat (Nat.xor a b)))
 |_=>none
def S2(op:BinOp)(k:IntKind)(a b:Int):Option U:=match a with
 |.ofNat a=>match b with
  |.ofNat b=>wg none (Q8 op k a b) (An (vU a (intMax k)) (vU b (intMax k)))
  |_=>none
 |_=>none
def qG(k:IntKind)(a b:Int):Option U:=wg (US k (a.tdiv b)) none (AN b (.ofNat 0))
def Aam(k:IntKind)(a b:Int):Option U:=wg (some (.int k (a.tmod b))) none (AN b (.ofNat 0))
def Bag(k:IntKind)(a b:Int):Option U:=match b with
 |.ofNat b=>US k (a*2^(min b k.bits))
 |_=>none
def Bgp(k:IntKind)(a b:Int):Option U:=match b with
 |.ofNat b=>some (.int k (a.fdiv (2^(min b k.bits))))
 |_=>none
def Ni(op:BinOp)(k:IntKind)(a b:Int):Option U:=match op with
 |.add=>US k (AW a b)
 |.sub=>US k (EU a b)
 |.eql=>I0 (AN a b)
 |.neq=>I0 (Bm (AN a b))
 |.lss=>I0 (Ba a b)
 |.leq=>I0 (CJ a b)
 |.gtr=>I0 (Ba b a)
 |.geq=>I0 (CJ b a)
 |.mul=>US k (a*b)
 |.quo=>qG k a b
 |.rem=>Aam k a b
 |.shl=>Bag k a b
 |.shr=>Bgp k a b
 |.and=>S2 .and k a b
 |.or=>S2 .or k a b
 |.xor=>S2 .xor k a b
 |.andNot=>none
def CL(l c m d:Nat):Bool:=An (vS l m) (vS c d)
def Qw(op:BinOp)(l c m d:Nat):Option U:=match op with
 |.add=>wg none (some (.str (vN l m) (Nu l c d))) (vU (vN l m) (intMax .i64))
 |.eql=>I0 (CL l c m d)
 |.neq=>I0 (Bm (CL l c m d))
 |.lss=>I0 (I8 (EC l c) (EC m d))
 |.geq=>I0 (Bm (I8 (EC l c) (EC m d)))
 |_=>none
def sameKind(op:BinOp)(k j:IntKind):Bool:=match op with
 |.shl|.shr=>true
 |_=>k=j
def SH(op:BinOp)(k:IntKind)(a:Int)(y:U):Option U:=match y with
 |.int j b=>wg none (Ni op k a b) (sameKind op k j)
 |_=>none
def TL(op:BinOp)(l c:Nat)(y:U):Option U:=match y with
 |.str m d=>Qw op l c m d
 |_=>none
def lD(o:Option Bool):Option U:=wz none (λb=>some (.bool b)) o
def ff(o:Option Bool):Option U:=wz none (λb=>some (.bool (Bm b))) o
def Ji(op:BinOp)(t:TypeId)(x y:U):Option U:=match op with
 |.eql=>lD (dz E t x y)
 |.neq=>ff (dz E t x y)
 |_=>none
def Dh(op:BinOp)(t:TypeId)(x y:U):Option U:=match x with
 |.int k a=>SH op k a y
 |.str l c=>TL op l c y
 |x=>Ji E op t x y
def cA(x:Operand):Bool:=match x with
 |.const _=>true
 |_=>false
def Aaz(op:BinOp):Bool:=match op with
 |.eql=>true
 |.neq=>true
 |_=>false
def Xt(d:TypeDesc):Bool:=match d with
 |.interface _=>true
 |_=>false
def S0(op:BinOp)(t:TypeId)(x a:Operand):Bool:=An (Aaz op) (An (Bm (cA x)) (An (Bm (cA a)) (wz true (λb=>Xt b.desc) (E.ty t))))
def ad(x a:U):Option Bool:=match x with
 |.FC=>match a with
  |.iface _ _=>some false
  |_=>none
 |.iface b _=>match a with
  |.FC=>some false
  |.iface ty _=>wg (some false) none (vS b ty)
  |_=>none
 |_=>none
def Re(op:BinOp)(t:TypeId)(x a:U):Option U:=wz none (λb=>wg none (match op with
 |.eql=>lD (ad x a)
 |.neq=>ff (ad x a)
 |_=>none) (Xt b.desc)) (E.ty t)
def Ps(op:BinOp)(t:TypeId)(ox oy:Operand)(x y:U):Option U:=wg (Dh E op t x y) (Re E op t x y) (S0 E op t ox oy)
def Z7(op:UnOp)(x:U):Option U:=match op with
 |.not=>match x with
  |.bool b=>some (.bool (!b))
  |_=>none
 |.neg=>match x with
  |.int k n=>some (.int k (k.wrap (0-n)))
  |_=>none
 |.xor=>match x with
  |.int k n=>some (.int k (k.wrap ((BitVec.ofInt k.bits (if k.signed then -1 else k.max))^^^(BitVec.ofInt k.bits n)).toNat))
  |_=>none
 |.plus=>none
def bq(d:TypeDesc):Bool:=match d with
 |.int k=>match k with
  |.u8=>true
  |_=>false
 |_=>false
def isByte(e:TypeId):Bool:=wz false (λa=>An (bq a.desc) (vS a.size 1)) (E.ty e)
def byteOfCell(v:U):Option Nat:=match v with
 |.int k n=>match k with
  |.u8=>match n with
   |.ofNat n=>some n
   |_=>none
  |_=>none
 |_=>none
def Ei(l:List U):Option (List Nat):=wj (some []) (λv _ a=>wz none (λn=>wz none (λl=>wg none (some (n::l)) (vU n 255)) a) (byteOfCell v)) l
variable{T:Type}
def LL(h:Hp T)(o:Option (List Nat)):Option (U×Hp T):=wz none (λl=>some (strOf l,h)) o
def J2(a:TypeId)(b:P)(o n:Nat)(c:Hp T):Option (U×Hp T):=
 wz none (λd=>match d.desc with
  |.slice e=>wg none (wz none (λcs=>LL c (Ei cs)) (c.read b o n)) (isByte E e)
  |_=>none) (E.ty a)
def YT(a:TypeId)(b:Hp T):Option (U×Hp T):=
 wz none (λc=>match c.desc with
  |.slice e=>wg none (some (.str 0 0,b)) (isByte E e)
  |_=>none) (E.ty a)
def N4(a:TypeId)(x:U)(c:Hp T):Option (U×Hp T):=match x with
 |.int _ n=>some (bytesOf (Utf8.encode n),c)
 |.str l d=>some (.str l d,c)
 |.Af=>YT E a c
 |.slice b o n _ _=>J2 E a b o n c
 |_=>none
def Sz(k:IntKind)(x:U)(h:Hp T):Option (U×Hp T):=match x with
 |.int _ n=>some (.int k (wrap k n),h)
 |_=>none
def Rk(e:TypeId)(x:U)(h:Hp T):Option (U×Hp T):=match x with
 |.str l c=>wg none (some (.slice h.next 0 l 1 false,h.new (.row (Ai (byteCells l c) 0 .e) l 0 e false))) (isByte E e)
 |_=>none
def IC(a:P)(o:Nat)(b:TypeId)(c:Hp T)(r:Gh):Option (U×Hp T):=
 Gh.rec none (λ_ n _ e d=>wz none (λf=>wg none (some (.ptr a o,c)) (An (An d (vS e b)) (An (vS o 0) (An (vU 1 f.size) (vU f.size n))))) (E.ty b)) (λ_ _=>none) r
def GP(a:TypeId)(b:P)(o:Nat)(c:Hp T)(r:Gh):Option (U×Hp T):=
 Gh.rec none (λ_ n _ _ _=>wz none (λd=>match d.desc with
  |.pointer t=>wz none (λf=>wg none (some (.ptr b o,c)) (An (vU 1 f.size) (vU (vN o 1) n))) (E.ty t)
  |_=>none) (E.ty a)) (λ_ _=>none) r
def ZF(a:TypeId)(r:Option (U×Hp T)):Option (U×Hp T):=wz none (λb=>match b.desc with
 |.unsafePointer=>r
 |_=>none) (E.ty a)
def Aqg(a:TypeId)(r:Option (U×Hp T)):Option (U×Hp T):=wz none (λb=>match b.desc with
 |.pointer _=>r
 |_=>none) (E.ty a)
def Xp(a:Hp T)(b:TypeId)(c:TypeDesc)(x:U):Option (U×Hp T):=match c with
 |.int d=>Sz d x a
 |.string=>N4 E b x a
 |.slice e=>Rk E e x a
 |.pointer f=>match x with
  |.Bn=>ZF E b (some (.Bn,a))
  |.ptr g o=>ZF E b (IC E g o f a (CG (a.at g)))
  |_=>none
 |.unsafePointer=>match x with
  |.Bn=>Aqg E b (some (.Bn,a))
  |.ptr g o=>GP E b g o a (CG (a.at g))
  |_=>none
 |_=>none
def D4(a:Hp T)(b c:TypeId)(x:U):Option (U×Hp T):=wz none (λd=>Xp E a b d.desc x) (E.ty c)
def Bf(v:U):Option Nat:=match v with
 |.int _ n=>match n with
  |.ofNat n=>some n
  |_=>none
 |_=>none
def Vu(c l lo h:Nat):Option U:=wg none (some (.str (vQ h lo) (Me c lo h))) (An (vU lo h) (vU h l))
def HK(b:P)(o n sz:Nat)(t:Bool)(lo h:Nat)(m:Option Nat):Option U:=
 wg none (some (.slice b (vN o (vO lo sz)) (vQ h lo) sz (wz (An t (vS h n)) (λm=>vS m h) m)))
  (An (An (vU lo h) (vU h n)) (wz true (λm=>vS m h) m))
def Air(lo h:Nat)(m:Option Nat):Option U:=wg none (some .Af) (An (An (vS lo 0) (vS h 0)) (wz true (λm=>vS m 0) m))
def TQ(t:TypeId):Option (Nat×TypeId):=wz none (λa=>match a.desc with
 |.array n e=>some (n,e)
 |_=>none) (E.ty t)
def bound(d:Nat)(o:Option (Option Nat)):Option Nat:=match o with
 |none=>some d
 |some o=>o
def ik(k:Nat)(r:Gh):Bool:=Gh.rec false (λ_ m _ _ _=>vU k m) (λ_ m=>vU k m) r
def Fq(n:Nat)(lo hi:Option (Option Nat))(k:Nat→Nat→Option U):Option U:=
 wz none (λh=>wz none (λlo=>k lo h) (bound 0 lo)) (bound n hi)
def Xb(a:Hp T)(b:P)(o:Nat)(lo hi:Option (Option Nat))(c:Option Nat)(n:Nat)(e:TypeId):Option U:=
 wz none (λd=>wg none (Fq n lo hi (λlo a=>HK b o n d.size true lo a c)) (ik (vN o (vO n d.size)) (CG (a.at b)))) (E.ty e)
def px(x:U)(lo hi:Option (Option Nat))(a:Option Nat)(b:TI):Option U:=match x with
 |.Af=>Fq 0 lo hi (λlo c=>Air lo c a)
 |.slice d o n sz t=>wg none (Fq n lo hi (λlo c=>HK d o n sz t lo c a)) (vS b.size sz)
 |_=>none
def Oo(b:Hp T)(c:TypeDesc)(x:U)(lo hi:Option (Option Nat))(d:Option Nat):Option U:=match c with
 |.string=>match x with
  |.str l f=>wz (Fq l lo hi (λlo b=>Vu f l lo b)) (λ_=>none) d
  |_=>none
 |.slice e=>wz none (λg=>px x lo hi d g) (E.ty e)
 |.array n e=>match x with
  |.ptr h o=>Xb E b h o lo hi d n e
  |_=>none
 |.pointer a=>match x with
  |.ptr h o=>wz none (λp=>Xb E b h o lo hi d p.1 p.2) (TQ E a)
  |_=>none
 |_=>none
def FO(a:Hp T)(t:TypeId)(x:U)(lo hi:Option (Option Nat))(b:Option Nat):Option U:=wz none (λc=>Oo E a c.desc x lo hi b) (E.ty t)
abbrev Es:=List (U×U×Nat)
abbrev MW:=Option (U×Nat×Nat)
def Cb(a:U)(es:Es):Nat→Option MW:=wj (motive:=λ_=>Nat→Option MW) (λ_=>some none)
 (λe _ b c=>wz none (λt=>wg (b (vN c 1)) (some (some (e.2.1,e.2.2,c))) t) (Iw a e.1)) es
def RQ(a:TypeId)(b:U)(c:Es):Option MW:=
 wz none (λd=>wg none (Cb b c 0) (DX d.desc b)) (E.ty a)
def zeroOf(i:TI):Option U:=wg (match i.zero with
 |[v]=>some v
 |_=>none) (some (.agg i.zero)) i.agg
def setAt{a:Type}(e:a)(n:Nat):List a→List a:=vP (motive:=λ_=>List a→List a) (λl=>wj [] (λ_ r _=>e::r) l) (λ_ b l=>wj [] (λx r _=>x::b r) l) n
def cI{a:Type}(n:Nat):List a→List a:=vP (motive:=λ_=>List a→List a) (λl=>wj [] (λ_ r _=>r) l) (λ_ b l=>wj [] (λx r _=>x::b r) l) n
def ID(a:Nat)(v:U)(b:Es):Es:=wj [] (λe r c=>wg (e::c) ((e.1,v,a)::r) (vS e.2.2 a)) b
def C3(h:Hp T)(o:Option U):Option (U×Hp T):=wz none (λv=>some (v,h)) o
def Qy(o:Option (Hp T)):Option (U×Hp T):=wz none (λh=>some (.undef,h)) o
def Nh(e:TypeId)(i:Option TI)(h:Hp T):Option (U×Hp T):=wz none (λi=>some (.ptr h.next 0,h.newRow e i.zero)) i
def HU(a:List Field)(b:Nat):Option (Nat×TypeId):=wz none (λf=>some (f.offset,f.type)) (Cj a b)
def Pf(a:Nat→Option (Nat×Nat))(b:Nat)(c:List (Nat×U)):Tm→Option Tm:=wj (motive:=λ_=>Tm→Option Tm) (λt=>some t)
 (λp _ d t=>wz none (λq=>wg none (d (Ai p.2.cells q.1 t)) (An (An (vS (len p.2.cells) q.2) (vU 1 q.2)) (vU (vN q.1 (len p.2.cells)) b))) (a p.1)) c
def Nc(a:Nat)(b:Hp T)(t:Option Tm):Option (U×Hp T):=wz none (λt=>some (.agg (Cp t a 0),b)) t
def gB(fs:List Field)(a:Nat):Option (Nat×Nat):=wz none (λp=>wz none (λb=>some (p.1,b.size)) (E.ty p.2)) (HU fs a)
def P6(sz i:Nat):Option (Nat×Nat):=some (vO i sz,sz)
def Jy(a:TypeDesc)(b:TI)(c:List (Nat×U))(d:Hp T):Option (U×Hp T):=match a with
 |.struct fs=>Nc (len b.zero) d (Pf (gB E fs.toList) (len b.zero) c (Ai b.zero 0 .e))
 |.array _ e=>wz none (λf=>Nc (len b.zero) d (Pf (P6 f.size) (len b.zero) c (Ai b.zero 0 .e))) (E.ty e)
 |_=>none
def AF(a:Option TI)(b:List (Nat×U))(c:Hp T):Option (U×Hp T):=wz none (λa=>Jy E a.desc a b c) a
def Jb(t:TypeId):Option TypeId:=wz none (λa=>match a.desc with
 |.slice e=>some e
 |_=>none) (E.ty t)
def AE(t:TypeId)(a:TypeId→TI→Option (U×Hp T)):Option (U×Hp T):=wz none (λe=>wz none (λb=>a e b) (E.ty e)) (Jb E t)
def Ap(n:Nat)(a:List (Nat×U))(b:Hp T)(e:TypeId)(c:TI):Option (U×Hp T):=
 wg none (wz none (λt=>some (.slice b.next 0 n c.size true,b.new (.row t (vO n c.size) 0 e true))) (Pf (P6 c.size) (vO n c.size) a (Ai (H7 c.zero n) 0 .e)))
  (An (vS (len c.zero) c.size) (An (vU 1 c.size) (vU (vO n c.size) 16777216)))
def Ag(v:U)(h:Hp T):Option (U×Hp T):=match v with
 |.ptr b o=>some (.ptr b o,h)
 |_=>none
def mk2(l c:Option Nat)(k:Nat→Nat→Option (U×Hp T)):Option (U×Hp T):=wz none (λl=>wz none (λc=>k l c) c) l
def Eg(l c:Option Nat)(a:Hp T)(e:TypeId)(b:TI):Option (U×Hp T):=
 mk2 l c (λl c=>wg none (some (.slice a.next 0 l b.size (vS l c),a.new (.row (Ai (H7 b.zero c) 0 .e) (vO c b.size) 0 e true)))
  (An (vU l c) (An (An (vS (len b.zero) b.size) (vU 1 b.size)) (An (vU c 1099511627776) (vU (vO c b.bytes) 140737488355328)))))
def LJ(a:TypeId)(b:Nat):Option Nat:=wz none (λc=>match c.desc with
 |.struct d=>wz none (λp=>wz none (λf=>wg none (some p.1) (vU 1 f.size)) (E.ty p.2)) (HU d.toList b)
 |_=>none) (E.ty a)
def Jt(t:TypeId)(x:U)(a:Nat)(b:Hp T):Option (U×Hp T):=match x with
 |.agg cs=>wz none (λc=>match c.desc with
  |.struct d=>wz none (λp=>C3 b (part E p.2 cs p.1)) (HU d.toList a)
  |_=>none) (E.ty t)
 |_=>none
def L5(t:TypeId)(a:P)(b c:Nat)(d:Hp T):Option (U×Hp T):=
 wz none (λp=>wg none (wz none (λf=>some (.ptr a (vN b (vO c f.size)),d)) (E.ty p.2)) (vU (vN c 1) p.1)) (TQ E t)
def Jx(t:TypeId)(a:P)(b n sz c:Nat)(d:Hp T):Option (U×Hp T):=
 AE E t (λ_ f=>wg none (some (.ptr a (vN b (vO c sz)),d)) (An (vU (vN c 1) n) (vS f.size sz)))
def Ef(t:TypeId)(x:U)(a:Option Nat)(b:Hp T):Option (U×Hp T):=wz none (λa=>match x with
 |.slice c d n sz _=>Jx E t c d n sz a b
 |.ptr c d=>L5 E t c d a b
 |_=>none) a
def L2(t:TypeId)(cs:List U)(a:Nat)(b:Hp T):Option (U×Hp T):=
 wz none (λp=>wg none (wz none (λc=>C3 b (part E p.2 cs (vO a c.size))) (E.ty p.2)) (vU (vN a 1) p.1)) (TQ E t)
def isStr(d:TypeDesc):Bool:=match d with
 |.string=>true
 |_=>false
def Hl(t:TypeId)(x:U)(a:Option Nat)(b:Hp T):Option (U×Hp T):=wz none (λa=>match x with
 |.str l c=>wz none (λd=>wg none (wg none (some (.int .u8 (.ofNat (DD c a)),b)) (vU (vN a 1) l)) (isStr d.desc)) (E.ty t)
 |.agg cs=>L2 E t cs a b
 |_=>none) a
def EJ(o:Ob T):Option (Es×Nat):=match o with
 |.map a b=>some (a,b)
 |_=>none
def sN(h:Hp T)(m:U):Option (Es×Nat):=match m with
 |.map b=>EJ (h.at b)
 |.GH=>some ([],0)
 |_=>none
def I7(a:Bool)(v:U)(is:Bool):U:=wg v (.tuple [v,.bool is]) a
def CW(e:TypeId)(a:Bool)(r:Option MW)(b:Hp T):Option (U×Hp T):=
 wz none (λr=>wz (wz none (λc=>wz none (λz=>some (I7 a z false,b)) (zeroOf c)) (E.ty e)) (λp=>some (I7 a p.1 true,b)) r) r
def Ju(t:TypeId)(a:TypeId→TypeId→Option (U×Hp T)):Option (U×Hp T):=wz none (λb=>match b.desc with
 |.map c e=>a c e
 |_=>none) (E.ty t)
def BO(t:TypeId)(a b:U)(c:Bool)(d:Hp T):Option (U×Hp T):=
 Ju E t (λf e=>wz none (λp=>CW E e c (RQ E f b p.1) d) (sN d a))
def HL(b:P)(a v:U)(c:Es)(d:Nat)(r:Option MW)(f:Hp T):Option (U×Hp T):=
 wz none (λr=>wz (some (.undef,f.put b (.map (Eh c [(a,v,d)]) (vN d 1)))) (λp=>some (.undef,f.put b (.map (setAt (a,v,p.2.1) p.2.2 c) d))) r) r
def Cg(t:TypeId)(a c v:U)(d:Hp T):Option (U×Hp T):=match a with
 |.map b=>Ju E t (λf _=>wz none (λp=>HL b c v p.1 p.2 (RQ E f c p.1) d) (EJ (d.at b)))
 |_=>none
def Ahd(a:P)(e:TypeId)(b:U)(c:Es)(d:Nat)(r:Option MW)(f:Hp T):Option (U×Hp T):=
 wz none (λr=>wz (wz none (λg=>wz none (λz=>some (.tuple [z,.int .i64 (.ofNat d)],f.put a (.map (Eh c [(b,z,d)]) (vN d 1)))) (zeroOf g)) (E.ty e))
  (λp=>some (.tuple [p.1,.int .i64 (.ofNat p.2.1)],f.put a (.map (setAt (b,p.1,p.2.1) p.2.2 c) d))) r) r
def Iz(t:TypeId)(a b:U)(c:Hp T):Option (U×Hp T):=match a with
 |.map d=>Ju E t (λf e=>wz none (λp=>Ahd E d e b p.1 p.2 (RQ E f b p.1) c) (EJ (c.at d)))
 |_=>none
def Lp(a:Nat)(b:Es):Bool:=match b with
 |[]=>false
 |e::r=>or (vS e.2.2 a) (Lp a r)
def GU(a:U)(b:Option Nat)(v:U)(c:Hp T):Option (U×Hp T):=match a with
 |.map d=>wz none (λf=>wz none (λp=>wg none (some (.undef,c.put d (.map (ID f v p.1) p.2))) (Lp f p.1)) (EJ (c.at d))) b
 |_=>none
def im(d:TypeDesc):Bool:=match d with
 |.map _ _=>true
 |_=>false
def NY(t:TypeId)(x:U)(a:Hp T):Option (U×Hp T):=match x with
 |.str l b=>wz none (λc=>wg none (some (.ptr a.next 0,a.new (.iter l b 0))) (isStr c.desc)) (E.ty t)
 |.map d=>wz none (λc=>wg none (wz none (λp=>some (.ptr a.next 0,a.new (.Hq d p.2 [] p.2))) (EJ (a.at d))) (im c.desc)) (E.ty t)
 |_=>none
def bJ(b:P)(l c pos:Nat)(h:Hp T):Option (U×Hp T):=
 wg (some (.tuple [.bool false],h))
  (wg (some (.tuple [.bool true,.int .i64 (.ofNat pos),.int .i32 (.ofNat (DD c pos))],h.put b (.iter l c (vN pos 1)))) none (vU 128 (DD c pos)))
  (vU (vN pos 1) l)
def QQ(a:U)(b:Bool)(c:Hp T):Option (U×Hp T):=match a with
 |.ptr d o=>match c.at d with
  |.iter l f pos=>wg none (bJ d l f pos c) (An b (vS o 0))
  |_=>none
 |_=>none
def dC(l:List Nat):Option Nat:=wj none (λx r a=>match r with|[]=>some x|_::_=>a) l
def dx(n:Nat)(a:List (U×U×Nat)):Option (U×U×Nat):=wj none (λe _ b=>wg b (some e) (vS e.2.2 n)) a
def Ue(a:Option (List (U×U×Nat)×Nat))(b:List Nat)(c:Nat)(d:Hp T):Option (U×Hp T):=
 wz none (λp=>wg none (wz none (λn=>wz none (λe=>some (.tuple [e.1,e.2.1],d)) (dx n p.1)) (dC b)) (vS p.2 c)) a
def NS(a:U)(b:Hp T):Option (U×Hp T):=match a with
 |.ptr c o=>match b.at c with
  |.Hq d _ f g=>wg none (Ue (EJ (b.at d)) f g b) (vS o 0)
  |_=>none
 |_=>none
def Ma(a:TypeId)(x:U)(b:Bool)(c:Hp T):Option (U×Hp T):=match x with
 |.iface t v=>wz none (λd=>match d.desc with
  |.interface _=>none
  |_=>wg none (some (I7 b v true,c)) (vS t a)) (E.ty a)
 |_=>none
def Ir(t:U)(i:Nat)(h:Hp T):Option (U×Hp T):=match t with
 |.tuple vs=>C3 h (Cj vs i)
 |_=>none
def isIface(d:TypeDesc):Bool:=match d with
 |.interface _=>true
 |_=>false
def Il(t:TypeId)(x:U)(a:Hp T):Option (U×Hp T):=wz none (λb=>wg (some (.iface t x,a)) none (isIface b.desc)) (E.ty t)
end
end Go.Den
namespace Go.Den
section
variable(E:Env){T:Type}
def BH(h:Hp T)(sz:Nat)(x:U):Option (Nat×List U):=match x with
 |.Af=>some (0,[])
 |.slice b o n z _=>wg none (wz none (λcs=>some (n,cs)) (h.read b o (vO n sz))) (vS z sz)
 |.str l c=>wg none (some (l,byteCells l c)) (vS sz 1)
 |_=>none
def Sf(a:TI)(x:U):Option (Nat×List U):=match x with
 |.int _ n=>match n with
  |.ofNat n=>wg none (some (n,H7 a.zero n)) (vU n 1099511627776)
  |_=>none
 |_=>none
def OI(a:Option Bool)(b:Hp T)(c:TI)(x:U):Option (Nat×List U):=wz none (λa=>wg (BH b c.size x) (Sf c x) a) a
def LF(e:TypeId)(sz k:Nat)(cs:List U)(h:Hp T):Option (U×Hp T):=some (.slice h.next 0 k sz false,h.new (.row (Ai cs 0 .e) (vO k sz) 0 e false))
def JU(a:TypeId)(b:P)(o n c sz:Nat)(new:List U)(d:Hp T)(r:Gh):Option (U×Hp T):=
 Gh.rec none (λt f z e _=>wg none (some (.slice d.next o (vN n c) sz false,
  (d.put b .dead).new (.row (Ai new (vN o (vO n sz)) t) (vN o (vO (vN n c) sz)) z e false)))
  (An (An (vS a e) (vS o 0)) (An (vU (vN o (vO n sz)) f) (vU z (vN o (vO n sz)))))) (λ_ _=>none) r
def Dx(e:TypeId)(sz:Nat)(a:U)(b:Nat)(new:List U)(c:Hp T):Option (U×Hp T):=match a with
 |.Af=>LF e sz b new c
 |.slice d o n z t=>wg none (wg (JU e d o n b sz new c (CG (c.at d))) (wz none (λf=>LF e sz (vN n b) (Eh f new) c) (c.read d o (vO n sz))) t) (vS z sz)
 |_=>none
def C7(s:U):Nat:=match s with
 |.slice _ _ n _ _=>n
 |_=>0
def Da(s:U):Bool:=match s with
 |.Af=>true
 |.slice ..=>true
 |_=>false
def Bl(a:TI)(n:Nat):Bool:=An (An (vS (len a.zero) a.size) (vU 1 a.size)) (An (vU n 1099511627776) (vU (vO n a.bytes) 140737488355328))
def BK(a:Option Bool)(b x:U)(c:Hp T)(e:TypeId)(d:TI):Option (U×Hp T):=
 wz none (λp=>wg none (wg (Dx e d.size b p.1 p.2 c) (some (b,c)) (vS p.1 0)) (An (Da b) (Bl d (vN (C7 b) p.1)))) (OI a c d x)
def nC(k:Nat)(o:Option (Hp T)):Option (U×Hp T):=wz none (λh=>some (.int .i64 (.ofNat k),h)) o
def gD(a x:U)(b:Hp T)(_e:TypeId)(c:TI):Option (U×Hp T):=
 wz none (λp=>match a with
  |.Af=>some (.int .i64 (.ofNat 0),b)
  |.slice d o n z _=>wg none (wg (nC n (b.write d o (FW (vO n c.size) p.2))) (nC p.1 (b.write d o p.2)) (vU p.1 n)) (vS z c.size)
  |_=>none) (BH b c.size x)
def ZB(d:TypeDesc)(x:U)(h:Hp T):Option (U×Hp T):=match d with
 |.string=>match x with
  |.str l _=>some (.int .i64 (.ofNat l),h)
  |_=>none
 |.slice _=>match x with
  |.Af=>some (.int .i64 (.ofNat 0),h)
  |.slice _ _ n _ _=>some (.int .i64 (.ofNat n),h)
  |_=>none
 |.map _ _=>match x with
  |.GH=>some (.int .i64 (.ofNat 0),h)
  |.map b=>wz none (λp=>some (.int .i64 (.ofNat (len p.1)),h)) (EJ (h.at b))
  |_=>none
 |.array n _=>some (.int .i64 (.ofNat n),h)
 |.pointer a=>wz none (λp=>some (.int .i64 (.ofNat p.1),h)) (TQ E a)
 |_=>none
def Hr(a:List TypeId)(x:U)(b:Hp T):Option (U×Hp T):=wz none (λt=>wz none (λc=>ZB E c.desc x b) (E.ty t)) (Cj a 0)
def Abz(t:Option TypeId):Bool:=wz false (λt=>wz false (λ_=>true) (Jb E t)) t
def gm(x:U)(h:Hp T):Option (U×Hp T):=match x with
 |.Af=>some (.int .i64 (.ofNat 0),h)
 |.slice _ _ n _ t=>match t with
  |true=>some (.int .i64 (.ofNat n),h)
  |false=>none
 |_=>none
def Aeg(a:List TypeId)(x:U)(b:Hp T):Option (U×Hp T):=wg none (gm x b) (Abz E (Cj a 0))
def Ajw(a:P)(b:Es)(c:Nat)(r:Option MW)(d:Hp T):Option (U×Hp T):=
 wz none (λr=>wz (some (.undef,d.put a (.map b c))) (λp=>some (.undef,d.put a (.map (cI p.2.2 b) c))) r) r
def O1(t:Option TypeId)(a b:U)(c:Hp T):Option (U×Hp T):=match a with
 |.map d=>wz none (λt=>Ju E t (λf _=>wz none (λp=>Ajw d p.1 p.2 (RQ E f b p.1) c) (EJ (c.at d)))) t
 |_=>none
def EK(x:U)(h:Hp T):Option (U×Hp T):=match x with
 |.Af=>some (.Bn,h)
 |.slice b o n _ _=>match n with
  |0=>none
  |_+1=>some (.ptr b o,h)
 |_=>none
def JH(t:Option TypeId):Bool:=wz false (λt=>wz false (λa=>match a.desc with
 |.pointer e=>isByte E e
 |_=>false) (E.ty t)) t
def VG(b:P)(o n:Nat)(h:Hp T)(r:Gh):Option (U×Hp T):=
 Gh.rec none (λt m _ e w=>wg none (LL (h.put b (.row t m (vN m 1) e w)) (Ei (Cp t n o))) (An (isByte E e) (An (vU (vN o n) m) (vU n (intMax .i64))))) (λ_ _=>none) r
def I9(p:U)(n:Option Nat)(h:Hp T):Option (U×Hp T):=wz none (λn=>match p with
 |.Bn=>wg none (some (.str 0 0,h)) (vS n 0)
 |.ptr b o=>wg (VG E b o n h (CG (h.at b))) (some (.str 0 0,h)) (vS n 0)
 |_=>none) n
def TC(x:U)(a:Hp T)(_e:TypeId)(b:TI):Option (U×Hp T):=match x with
 |.Af=>some (.undef,a)
 |.slice c o n z _=>wg none (Qy (a.write c o (H7 b.zero n))) (An (vS z b.size) (vS (len b.zero) b.size))
 |_=>none
def max2(x y:U):Option U:=match x with
 |.int k a=>match y with
  |.int _ b=>some (.int k (wg a b (Ba a b)))
  |_=>none
 |_=>none
def min2(x y:U):Option U:=match x with
 |.int k a=>match y with
  |.int _ b=>some (.int k (wg a b (Ba b a)))
  |_=>none
 |_=>none
def HF(d:TypeDesc):Bool:=match d with
 |.int _=>true
 |_=>false
def Yc(t:Option TypeId):Option Bool:=wz none (λt=>wz none (λa=>some (HF a.desc)) (E.ty t)) t
def GM(t:Option TypeId)(k:TypeId→TI→Option (U×Hp T)):Option (U×Hp T):=wz none (λt=>AE E t k) t
def bi1(a:Builtin)(b:List TypeId)(x:U)(c:Hp T):Option (U×Hp T):=match a with
 |.len=>Hr E b x c
 |.cap=>Aeg E b x c
 |.unsafeSliceData=>EK x c
 |.clear=>GM E (Cj b 0) (λe d=>TC x c e d)
 |_=>none
def bi2(a:Builtin)(b:List TypeId)(x c:U)(d:Hp T):Option (U×Hp T):=match a with
 |.append=>GM E (Cj b 0) (λe f=>BK (Yc E (Cj b 1)) x c d e f)
 |.copy=>GM E (Cj b 0) (λe f=>gD x c d e f)
 |.delete=>O1 E (Cj b 0) x c d
 |.max=>C3 d (max2 x c)
 |.min=>C3 d (min2 x c)
 |.unsafeString=>wg none (I9 E x (Bf c) d) (JH E (Cj b 0))
 |_=>none
def AB(b:Builtin)(a:List TypeId)(c:List U)(d:Hp T):Option (U×Hp T):=match c with
 |[x]=>bi1 E b a x d
 |[x,f]=>bi2 E b a x f d
 |_=>none
end
section
variable{T:Type}
def Ij(a n:Nat):Nat→Nat→Int:=vP (motive:=λ_=>Nat→Nat→Int) (λ_ _=>.negSucc 0)
 (λ_ b c d=>wg (b (vR c 256) (vN d 1)) (.ofNat d) (vS (vT c 256) a)) n
def Jg(a n:Nat):Nat→Nat→Int:=vP (motive:=λ_=>Nat→Nat→Int) (λ_ b=>.ofNat b)
 (λ_ c d b=>wg (c (vR d 256) b) (c (vR d 256) (vN b 1)) (vS (vT d 256) a)) n
def DZ(l:List U):U:=match l with|x::_=>x|[]=>.undef
def arg1(l:List U):U:=match l with|_::l=>DZ l|[]=>.undef
def Qn(g:Nat→Nat→Nat→Int)(x y:U)(h:Hp T):Option (U×Hp T):=match x with
 |.str l c=>wz none (λb=>wg none (some (.int .i64 (g l c b),h)) (vU b 255)) (byteOfCell y)
 |_=>none
def U9(t:TypeId)(o:Option (Es×Nat))(h:Hp T):Option (U×Hp T):=wz none (λp=>some (.iface t (.map h.next),h.new (.map p.1 p.2))) o
def aQ(x:U)(h:Hp T):Option (U×Hp T):=match x with
 |.iface t m=>match m with
  |.map b=>U9 t (EJ (h.at b)) h
  |_=>none
 |_=>none
def LD(k:IntKind)(v:U):Option Int:=match v with
 |.int j n=>if j=k then some n else none
 |_=>none
def iM(k:IntKind)(a:U)(h:Hp T):Option (U×Hp T):=match a with
 |.ptr b o=>wz none (λv=>wz none (λn=>some (.int k n,h)) (LD k v)) (h.E4 b o)
 |_=>none
def aG(k:IntKind)(a x:U)(h:Hp T):Option (U×Hp T):=match a with
 |.ptr b o=>wz none (λn=>Qy (h.write b o [.int k n])) (LD k x)
 |_=>none
def tG(k:IntKind)(a x:U)(h:Hp T):Option (U×Hp T):=match a with
 |.ptr b o=>wz none (λv=>wz none (λn=>wz none (λm=>wz none (λh=>some (.int k (wrap k (AW n m)),h)) (h.write b o [.int k (wrap k (AW n m))])) (LD k x)) (LD k v)) (h.E4 b o)
 |_=>none
def qZ(k:IntKind)(a x y:U)(h:Hp T):Option (U×Hp T):=match a with
 |.ptr b o=>wz none (λv=>wz none (λn=>wz none (λm=>wz none (λq=>wg none (wz none (λh=>some (.bool true,h)) (h.write b o [.int k q])) (AN n m)) (LD k y)) (LD k x)) (LD k v)) (h.E4 b o)
 |_=>none
def Lm(v:U):Option U:=match v with
 |.Bn=>some .Bn
 |.ptr b o=>some (.ptr b o)
 |_=>none
def Adm(x y:U):Bool:=match x with
 |.Bn=>match y with
  |.Bn=>true
  |_=>false
 |.ptr b o=>match y with
  |.ptr c p=>An (P.beq b c) (vS o p)
  |_=>false
 |_=>false
def fw(a:U)(h:Hp T):Option (U×Hp T):=match a with
 |.ptr b o=>wz none (λv=>wz none (λp=>some (p,h)) (Lm v)) (h.E4 b o)
 |_=>none
def jj(a x:U)(h:Hp T):Option (U×Hp T):=match a with
 |.ptr b o=>wz none (λv=>wz none (λp=>wz none (λq=>wz none (λh=>some (p,h)) (h.write b o [q])) (Lm x)) (Lm v)) (h.E4 b o)
 |_=>none
def sq(a x y:U)(h:Hp T):Option (U×Hp T):=match a with
 |.ptr b o=>wz none (λv=>wz none (λp=>wz none (λq=>wz none (λz=>wg none (wz none (λh=>some (.bool true,h)) (h.write b o [z])) (Adm p q)) (Lm y)) (Lm x)) (Lm v)) (h.E4 b o)
 |_=>none
def C1(e:Ext)(a:List U)(b:Hp T):Option (U×Hp T):=match e with
 |.Fw=>some (DZ a,b)
 |.nothing=>some (.undef,b)
 |.address=>match DZ a with
  |.ptr _ _=>some (.undef,b)
  |_=>none
 |.indexByte=>Qn (λl c d=>Ij d l c 0) (DZ a) (arg1 a) b
 |.count=>Qn (λl c d=>Jg d l c 0) (DZ a) (arg1 a) b
 |.clone=>aQ (DZ a) b
 |.Gf f=>iM f (DZ a) b
 |.Fv f=>aG f (DZ a) (arg1 a) b
 |.Jc f=>tG f (DZ a) (arg1 a) b
 |.Jr f=>qZ f (DZ a) (arg1 a) (DZ (Ho 2 a)) b
 |.Wl=>fw (DZ a) b
 |.Wx=>jj (DZ a) (arg1 a) b
 |.gb=>sq (DZ a) (arg1 a) (DZ (Ho 2 a)) b
def rQ(e:Ext):Option Nat:=match e with
 |.Fw=>some 1
 |.nothing=>none
 |.address=>none
 |.indexByte=>some 2
 |.count=>some 2
 |.clone=>some 1
 |.Gf _=>some 1
 |.Fv _=>some 2
 |.Jc _=>some 2
 |.Jr _=>some 3
 |.Wl=>some 1
 |.Wx=>some 2
 |.gb=>some 3
end
section
variable{α:Type}(C:Cx α)
def eval(o:Operand)(f:C.I.T):U:=Operand.rec (λt f=>C.I.get f t) (λv _=>BB (ofValue v) (λv=>v)) (λg _=>.ptr (CH g) 0) (λfn _=>.func (.func fn) [] []) o f
def Fe(f:C.I.T)(l:List (Nat×Operand)):List (Nat×U):=wj [] (λp _ a=>(p.1,eval C p.2 f)::a) l
def EO(f:C.I.T)(l:List Operand):(List U→α)→α:=wj (motive:=λ_=>(List U→α)→α) (λa=>a []) (λx _ b a=>BB (eval C x f) (λv=>b (λl=>a (v::l)))) l
def Ip(f:C.I.T)(o:Option Operand):Option (Option Nat):=wz none (λx=>some (Bf (eval C x f))) o
abbrev K(α T:Type):=U→Hp T→α
def B2(k:K α C.I.T)(o:Option (U×Hp C.I.T)):α:=wz C.bad (λp=>Prod.rec (λv h=>BB v (λv=>Hp.rec (λm n=>FK m (λm=>k v ⟨m,n⟩)) h)) p) o
inductive Ko where
 |no
 |at(b:P) (o:Nat)
def IX(v:U):Ko:=U.rec (motive_1:=λ_=>Ko) (motive_2:=λ_=>Unit)
 (λ_=>.no) (λ_ _=>.no) (λ_ _=>.no) .no (λb o=>.at b o) .no (λ_ _ _ _ _=>.no) .no (λ_=>.no) (λ_ _ _ _ _=>.no) .no (λ_ _ _=>.no) .no (λ_ _=>.no) (λ_ _=>.no) .no () (λ_ _ _ _=>()) v
inductive MJ where
 |no
 |is (b:Bool)
def I6(v:U):MJ:=U.rec (motive_1:=λ_=>MJ) (motive_2:=λ_=>Unit)
 (λb=>.is b) (λ_ _=>.no) (λ_ _=>.no) .no (λ_ _=>.no) .no (λ_ _ _ _ _=>.no) .no (λ_=>.no) (λ_ _ _ _ _=>.no) .no (λ_ _ _=>.no) .no (λ_ _=>.no) (λ_ _=>.no) .no () (λ_ _ _ _=>()) v
abbrev FH:=(C:Cx α)→C.I.T→Hp C.I.T→K α C.I.T→α
def JS(a:Hp C.I.T)(b:K α C.I.T)(c:P)(d:Nat)(f:TI):α:=
 wg (a.EP c d C.bad (λv=>b v a)) (a.ES c d f.size C.bad (λl=>b (.agg l) a)) f.agg
def Awn(t:TypeId)(a:Operand):FH (α:=α):=λC f b c=>
 Ko.rec C.bad (λd g=>wz C.bad (λh=>JS C b c d g h) (C.E.ty t)) (IX (eval C a f))
def HE(a:Hp C.I.T)(b:K α C.I.T)(c:P)(d:Nat)(v:U)(f:TI):α:=
 wg C.bad (a.Ew c d v.cells C.bad (λa=>b .undef a)) (An (vS (len v.cells) f.size) (vU 1 f.size))
def Afj(t:TypeId)(a x:Operand):FH (α:=α):=λC f b c=>
 Ko.rec C.bad (λd g=>wz C.bad (λh=>BB (eval C x f) (λv=>HE C b c d g v h)) (C.E.ty t)) (IX (eval C a f))
def uV(x:Operand):FH (α:=α):=λC f h k=>BB (eval C x f) (λv=>k v h)
def Bbh(e:TypeId)(x:Operand):FH (α:=α):=λC f h k=>BB (eval C x f) (λv=>wg C.bad (h.Bu (rowOf e v.cells) (λb h=>k (.ptr b 0) h)) (vU 1 (len v.cells)))
def Avj(c a b:Operand):FH (α:=α):=λC f h k=>
 MJ.rec C.bad (λt=>wg (BB (eval C b f) (λv=>k v h)) (BB (eval C a f) (λv=>k v h)) t) (I6 (eval C c f))
def Ajq(e:TypeId):FH (α:=α):=λC _ h k=>B2 C k (Nh e (C.E.ty e) h)
def Aie(t:TypeId)(a:Array (Nat×Operand)):FH (α:=α):=λC f b c=>B2 C c (AF C.E (C.E.ty t) (Fe C f a.toList) b)
def Xs(t:TypeId)(n:Nat)(a:Array (Nat×Operand)):FH (α:=α):=λC f b c=>B2 C c (AE C.E t (λe d=>Ap n (Fe C f a.toList) b e d))
def Ayb(x:Operand):FH (α:=α):=λC f h k=>B2 C k (Ag (eval C x f) h)
def Bhe(op:BinOp)(t:TypeId)(x y:Operand):FH (α:=α):=λC f h k=>wz C.bad (λv=>k v h) (Ps C.E op t x y (eval C x f) (eval C y f))
def xUn(op:UnOp)(x:Operand):FH (α:=α):=λC f h k=>wz C.bad (λv=>k v h) (Z7 op (eval C x f))
def Axk(s d:TypeId)(x:Operand):FH (α:=α):=λC f h k=>B2 C k (D4 C.E h s d (eval C x f))
def jM(t:TypeId)(x:Operand):FH (α:=α):=λC f h k=>B2 C k (Il C.E t (eval C x f) h)
def uL(fn:Fn)(a b:Array Operand):FH (α:=α):=λC f h k=>EO C f a.toList (λa=>EO C f b.toList (λb=>k (.func fn a b) h))
def Ajv(r:Option Operand):FH (α:=α):=λC _ h k=>wz (h.Bu (.map [] 0) (λb h=>k (.map b) h)) (λ_=>C.bad) r
def jm(t:TypeId)(l a:Operand):FH (α:=α):=λC f b c=>B2 C c (AE C.E t (λe d=>Eg (Bf (eval C l f)) (Bf (eval C a f)) b e d))
def maxOf(o:Option (Option Nat)):Option (Option Nat):=match o with
 |none=>some none
 |some o=>match o with
  |none=>none
  |some n=>some (some n)
def Ahj(t:TypeId)(x:Operand)(lo hi a:Option Operand):FH (α:=α):=λC f b c=>
 B2 C c (wz none (λd=>C3 b (FO C.E b t (eval C x f) (Ip C f lo) (Ip C f hi) d)) (maxOf (Ip C f a)))
def ZX(a:TypeId)(x:Operand)(b:Nat):FH (α:=α):=λC f c d=>
 Ko.rec C.bad (λg h=>wz C.bad (λo=>d (.ptr g (vN h o)) c) (LJ C.E a b)) (IX (eval C x f))
def Aix(t:TypeId)(x:Operand)(i:Nat):FH (α:=α):=λC f h k=>B2 C k (Jt C.E t (eval C x f) i h)
def YN(t:TypeId)(x i:Operand):FH (α:=α):=λC f h k=>B2 C k (Ef C.E t (eval C x f) (Bf (eval C i f)) h)
def Aew(t:TypeId)(x i:Operand):FH (α:=α):=λC f h k=>B2 C k (Hl C.E t (eval C x f) (Bf (eval C i f)) h)
def Abm(t:TypeId)(a b:Operand)(c:Bool):FH (α:=α):=λC f d g=>B2 C g (BO C.E t (eval C a f) (eval C b f) c d)
def ga(t:TypeId)(m i x:Operand):FH (α:=α):=λC f h k=>B2 C k (Cg C.E t (eval C m f) (eval C i f) (eval C x f) h)
def uM(t:TypeId)(m i:Operand):FH (α:=α):=λC f h k=>B2 C k (Iz C.E t (eval C m f) (eval C i f) h)
def Afr(m i x:Operand):FH (α:=α):=λC f h k=>B2 C k (GU (eval C m f) (Bf (eval C i f)) (eval C x f) h)
def Afm(t:TypeId)(x:Operand):FH (α:=α):=λC f h k=>B2 C k (NY C.E t (eval C x f) h)
def Aun(x:Operand)(s:Bool):FH (α:=α):=λC f h k=>B2 C k (QQ (eval C x f) s h)
def Akc(x:Operand):FH (α:=α):=λC f h k=>B2 C k (NS (eval C x f) h)
def qu(x:Operand)(a:TypeId)(b:Bool):FH (α:=α):=λC f c d=>B2 C d (Ma C.E a (eval C x f) b c)
def jS(x:Operand)(i:Nat):FH (α:=α):=λC f h k=>B2 C k (Ir (eval C x f) i h)
def MI:FH (α:=α):=λC _ _ _=>C.bad
abbrev Oh(α T:Type):=Fn→List U→Hp T→K α T→α
variable(call:Oh α C.I.T)
def HZ(v:U)(a:List U)(b:Hp C.I.T)(c:K α C.I.T):α:=match v with
 |.func fn first d=>call fn (first++a++d) b c
 |_=>C.bad
abbrev OpR(α:Type):=(C:Cx α)→Oh α C.I.T→C.I.T→Hp C.I.T→K α C.I.T→α
def up(g:FH (α:=α)):OpR α:=λC _ f h k=>g C f h k
def Q7(d:TypeDesc):Bool:=match d with|.pointer _=>true|_=>false
def Td(a:Env)(t:TypeId)(b:String):Option FuncId:=match a.ty t with
 |some c=>match c.ms.find? (λd=>d.name==b) with
  |some d=>match d.path.toList with
   |[]=>match d.func with
    |some (f,g)=>wg none (some f) (wg (not (Q7 c.desc)) (Q7 c.desc) g)
    |none=>none
   |_::_=>none
  |none=>none
 |none=>none
def O9(v:U)(a:String)(b:List U)(c:Hp C.I.T)(d:K α C.I.T):α:=match v with
 |.iface t x=>match Td C.E t a with
  |some f=>call (.func f) (x::b) c d
  |none=>C.bad
 |_=>C.bad
def Ave(a:Call):OpR α:=λC call f b c=>
 Callee.rec (λv=>EO C f a.args.toList (λl=>HZ C call (eval C v f) l b c)) (λr d=>EO C f a.args.toList (λl=>O9 C call (eval C r f) d l b c))
  (λg=>EO C f a.args.toList (λl=>B2 C c (AB C.E g a.argTypes.toList l b))) a.callee
def exec(o:Op):OpR α:=Op.rec (motive:=λ_=>OpR α)
 (λx=>up (uV x)) (λx=>up (uV x)) (λb a c=>up (Avj b a c)) (λe=>up (Ajq e)) (λe v=>up (Bbh e v))
 (λt d=>up (Aie t d)) (λt n d=>up (Xs t n d)) (λt f g v=>up (ga t f g v))
 (λt a=>up (Awn t a)) (λt a v=>up (Afj t a v)) (λ_=>up MI) (λ_=>up MI) (λx=>up (Ayb x))
 (λop t x h _=>up (Bhe op t x h)) (λop _ x=>up (xUn op x)) (λi j x=>up (Axk i j x)) (λ_ _=>up MI)
 (λt x=>up (jM t x)) (λfn a c=>up (uL fn a c)) (λ_ r=>up (Ajv r)) (λ_ _=>up MI) (λt l b=>up (jm t l b))
 (λt x lo hi k=>up (Ahj t x lo hi k)) (λt x m=>up (ZX t x m)) (λt x m=>up (Aix t x m))
 (λt x m=>up (YN t x m)) (λt x m=>up (Aew t x m)) (λt x m p=>up (Abm t x m p)) (λt f g v=>up (ga t f g v))
 (λt f g=>up (uM t f g)) (λ_ f i v=>up (Afr f i v)) (λt x=>up (Afm t x)) (λx i=>up (Aun x i)) (λx=>up (Akc x))
 (λx _ a p=>up (qu x a p)) (λx m=>up (jS x m)) (λb=>Ave b) (λ_=>up MI) (λ_=>up MI)
 (λ_=>up MI) (λ_ _=>up MI) (λ_ _ _=>up MI) (λ_ _=>up MI) o
end
end Go.Den
namespace Go.Den
def Lq(p:Program)(t:TypeId)(i:TypeInfo):TI where
 desc:=(p.underlying t).getD .invalid
 size:=i.size
 bytes:=i.bytes
 zero:=match i.zero with|some v=>v.cells.toList.map ofValue|none=>[]
 agg:=match p.underlying t with|some (.struct _)=>true|some (.array _ _)=>true|_=>false
 plain:=and (not (p.stoodInHeld t)) (not (p.eqGuardType p.depth t))
 ms:=i.methods.toList
def Rc(p:Program)(t:TypeId):Bool:=match p.underlying t with|some (.tuple _)=>true|_=>false
def si(p:Program)(t:TypeId)(i:TypeInfo):Option TI:=wg (some (Lq p t i)) none (Rc p t)
def MY{a:Type}(b:a)(l:List a):Nat→Tr a→Tr a:=wj (motive:=λ_=>Nat→Tr a→Tr a) (λ_ t=>t) (λv _ c d t=>c (vN d 1) (Tr.Mt b v t d)) l
def SQ(p:Program)(x:List (Nat×Ext)):Env where
 types:=MY none (p.types.toList.zipIdx.map λq=>si p q.2 q.1) 0 .e
 funcs:=MY none (p.funcs.toList.map some) 0 .e
 ext:=x.foldr (λp t=>Tr.Mt none (some p.2) t p.1) .e
end Go.Den
namespace Go.Den
open Go.RowKit
namespace P
@[simp] theorem Bie:nat .z=0:=rfl
@[simp] theorem Vw(p:P):nat (.l p)=2*nat p+1:=rfl
@[simp] theorem We(p:P):nat (.r p)=2*nat p+2:=rfl
@[simp] theorem Ce(p:P):nat (succ p)=nat p+1:=by
 induction p with
 |z=>rfl
 |l p _=>rfl
 |r p a=>have:succ (.r p)=.l (succ p):=rfl;rw[this,Vw,We,a];omega
theorem Od{p q:P}(a:nat p=nat q):p=q:=by
 induction p generalizing q with
 |z=>cases q with
  |z=>rfl
  |l q=>simp at a
  |r q=>simp at a
 |l p b=>cases q with
  |z=>simp at a
  |l q=>rw[Vw,Vw] at a;rw[b (q:=q) (by omega)]
  |r q=>simp at a;omega
 |r p b=>cases q with
  |z=>simp at a
  |l q=>rw[Vw,We] at a;omega
  |r q=>rw[We,We] at a;rw[b (q:=q) (by omega)]
instance:DecidableEq P:=λp q=>if h:p.nat=q.nat then isTrue (Od h) else isFalse λe=>h (by rw[e])
theorem beq_eq{p q:P}(a:beq p q=true):p=q:=by
 induction p generalizing q with
 |z=>cases q<;>first|rfl|cases a
 |l p b=>cases q with
  |z=>cases a
  |l q=>rw[b (q:=q) a]
  |r q=>cases a
 |r p b=>cases q with
  |z=>cases a
  |l q=>cases a
  |r q=>rw[b (q:=q) a]
end P
@[simp] theorem Axv:CH 0=.z:=rfl
@[simp] theorem Axw(n:Nat):CH (n+1)=(CH n).succ:=rfl
@[simp] theorem C5(n:Nat):(CH n).nat=n:=by
 induction n with
 |zero=>rfl
 |succ n a=>simp[a]
@[simp] theorem Tb(p:P):CH p.nat=p:=P.Od (by simp)
namespace Tr
variable{α:Type}
@[simp] theorem Bhz(d:α)(p:P):get d .e p=d:=rfl
@[simp] theorem Bhu(d:α)(l:Tr α)(v:α)(r:Tr α):get d (.n l v r) .z=v:=rfl
@[simp] theorem Bhv(d:α)(l:Tr α)(v:α)(r:Tr α)(p:P):get d (.n l v r) (.l p)=get d l p:=rfl
@[simp] theorem Bhx(d:α)(l:Tr α)(v:α)(r:Tr α)(p:P):get d (.n l v r) (.r p)=get d r p:=rfl
theorem tI(a v:α)(p q:P):get a (one a v p) q=if q=p then v else a:=by
 induction p generalizing q with
 |z=>cases q<;>simp[one]
 |l p b=>
  have c:one a v (.l p)=.n (one a v p) a .e:=rfl;rw[c];cases q with
  |z=>simp
  |l q=>simp[b]
  |r q=>simp
 |r p b=>
  have c:one a v (.r p)=.n .e a (one a v p):=rfl;rw[c];cases q with
  |z=>simp
  |l q=>simp
  |r q=>simp[b]
theorem SK(a v:α)(t:Tr α)(p q:P):get a (set a v t p) q=if q=p then v else get a t q:=by
 induction t generalizing p q with
 |e=>exact tI a v p q
 |n l b r c d=>
  cases p with
  |z=>have f:set a v (.n l b r) .z=.n l v r:=rfl;rw[f];cases q<;>simp
  |l p=>
   have f:set a v (.n l b r) (.l p)=.n (set a v l p) b r:=rfl;rw[f];cases q with
   |z=>simp
   |l q=>simp[c]
   |r q=>simp
  |r p=>
   have f:set a v (.n l b r) (.r p)=.n l b (set a v r p):=rfl;rw[f];cases q with
   |z=>simp
   |l q=>simp
   |r q=>simp[d]
theorem bA(a:α)(l:List α):∀(b:P)(t:Tr α)(q:P),get a (ofList a l b t) q=if b.nat≤q.nat∧q.nat<b.nat+l.length then l.getD (q.nat-b.nat) a else get a t q:=by
 induction l with
 |nil=>intro b t q;show get a t q=_;rw[if_neg (by simp)]
 |cons v l c=>
  intro b t q;have d:ofList a (v::l) b t=ofList a l b.succ (set a v t b):=rfl;rw[d,c,SK,P.Ce];by_cases f:q=b
  · subst f;rw[if_neg (by omega),if_pos rfl,if_pos (by simp)];simp
  · have g:q.nat≠b.nat:=λe=>f (P.Od e);by_cases h:b.nat+1≤q.nat∧q.nat<b.nat+1+l.length
    · rw[if_pos h,if_pos (by simp;omega)];obtain⟨i,j⟩:∃i,q.nat-b.nat=i+1:=⟨q.nat-b.nat-1,by omega⟩;have:q.nat-(b.nat+1)=i:=by omega
      rw[j,this];rfl
    · rw[if_neg h,if_neg f,if_neg (by simp;omega)]
@[simp] theorem Q5(d:α)(k:Nat):EY d .e k=d:=rfl
theorem HC(a:α)(l:Tr α)(v:α)(r:Tr α)(b:Nat):
 EY a (.n l v r) b=if b=0 then v else if b%2=1 then EY a l (b / 2) else EY a r (b / 2-1):=by
 have c:EY a (.n l v r) b=wg (wg (EY a r (b / 2-1)) (EY a l (b / 2)) (vS (b%2) 1)) v (vS b 0):=rfl;rw[c];by_cases h0:b=0
 · subst h0;rfl
 · have d:vS b 0=false:=by cases f:vS b 0 with
    |false=>rfl
    |true=>exact absurd (vW f) h0
   rw[if_neg h0,d];by_cases g:b%2=1
   · rw[if_pos g,g];rfl
   · have h:vS (b%2) 1=false:=by cases f:vS (b%2) 1 with
      |false=>rfl
      |true=>exact absurd (vW f) g
     rw[if_neg g,h]
theorem H6(a b:Nat):(a=b∧vS a b=true)∨(a≠b∧vS a b=false):=by
 cases c:vS a b with
 |false=>exact .inr ⟨λe=>by subst e;simp at c,rfl⟩
 |true=>exact .inl ⟨vW c,rfl⟩
theorem cQ(a v:α)(f:Nat):∀(b j:Nat),b<f→EY a (RE a v f b) j=if j=b then v else a:=by
 induction f with
 |zero=>intro b j c;omega
 |succ f d=>
  intro b j g;have c:RE a v (f+1) b=wg (wg (Tr.n .e a (RE a v f (b / 2-1))) (Tr.n (RE a v f (b / 2)) a .e) (vS (b%2) 1)) (Tr.n .e v .e) (vS b 0):=rfl;rw[c];rcases H6 b 0 with⟨h0,h⟩|⟨h0,h⟩
  · subst h0;rw[h];show EY a (Tr.n .e v .e) j=_;rw[HC];simp
  · rw[h];rcases H6 (b%2) 1 with⟨i,k⟩|⟨i,k⟩
    · rw[k];show EY a (Tr.n (RE a v f (b / 2)) a .e) j=_;rw[HC,d _ _ (by omega)];by_cases l:j=0
      · subst l;rw[if_pos rfl,if_neg (by omega)]
      · rw[if_neg l];by_cases m:j%2=1
        · rw[if_pos m];by_cases e:j / 2=b / 2
          · rw[if_pos e,if_pos (by omega)]
          · rw[if_neg e,if_neg (by omega)]
        · rw[if_neg m,Q5,if_neg (by omega)]
    · rw[k];show EY a (Tr.n .e a (RE a v f (b / 2-1))) j=_;rw[HC,d _ _ (by omega)];by_cases l:j=0
      · subst l;rw[if_pos rfl,if_neg (by omega)]
      · rw[if_neg l];by_cases m:j%2=1
        · rw[if_pos m,Q5,if_neg (by omega)]
        · rw[if_neg m];by_cases e:j / 2-1=b / 2-1
          · rw[if_pos e,if_pos (by omega)]
          · rw[if_neg e,if_neg (by omega)]
theorem Th(a v:α)(t:Tr α):∀(b j:Nat),EY a (Mt a v t b) j=if j=b then v else EY a t j:=by
 induction t with
 |e=>intro b j;exact cQ a v (b+1) b j (by omega)
 |n l c r d f=>
  intro b j;have g:Mt a v (.n l c r) b=wg (wg (Tr.n l c (Mt a v r (b / 2-1))) (Tr.n (Mt a v l (b / 2)) c r) (vS (b%2) 1)) (Tr.n l v r) (vS b 0):=rfl;rw[g];rcases H6 b 0 with⟨h0,h⟩|⟨h0,h⟩
  · subst h0;rw[h];show EY a (Tr.n l v r) j=_;rw[HC,HC];by_cases i:j=0<;>simp[i]
  · rw[h];rcases H6 (b%2) 1 with⟨k,m⟩|⟨k,m⟩
    · rw[m];show EY a (Tr.n (Mt a v l (b / 2)) c r) j=_;rw[HC,HC,d];by_cases i:j=0
      · subst i;rw[if_pos rfl,if_neg (by omega)];rfl
      · rw[if_neg i,if_neg i];by_cases o:j%2=1
        · rw[if_pos o,if_pos o];by_cases e:j / 2=b / 2
          · rw[if_pos e,if_pos (by omega)]
          · rw[if_neg e,if_neg (by omega)]
        · rw[if_neg o,if_neg o,if_neg (by omega)]
    · rw[m];show EY a (Tr.n l c (Mt a v r (b / 2-1))) j=_;rw[HC,HC,f];by_cases i:j=0
      · subst i;rw[if_pos rfl,if_neg (by omega)];rfl
      · rw[if_neg i,if_neg i];by_cases o:j%2=1
        · rw[if_pos o,if_pos o,if_neg (by omega)]
        · rw[if_neg o,if_neg o];by_cases e:j / 2-1=b / 2-1
          · rw[if_pos e,if_pos (by omega)]
          · rw[if_neg e,if_neg (by omega)]
end Tr
@[simp] theorem BU{b:Type}(l:List b):len l=l.length:=by
 induction l with
 |nil=>rfl
 |cons a l c=>have d:len (a::l)=len l+1:=rfl;rw[d,c];rfl
theorem cH(t:Tm)(k:Nat)(v:U)(j:Nat):AD (uI t k v) j=if j=k then v else AD t j:=Tr.Th _ _ _ _ _
@[simp] theorem Bht(k:Nat):AD .e k=.undef:=rfl
theorem Am(l:List U):∀(a:Nat)(t:Tm)(j:Nat),AD (Ai l a t) j=if a≤j∧j<a+l.length then l.getD (j-a) .undef else AD t j:=by
 induction l with
 |nil=>intro a t j;show AD t j=_;rw[if_neg (by simp)]
 |cons v l b=>
  intro a t j;have c:Ai (v::l) a t=Ai l (a+1) (uI t a v):=rfl;rw[c,b,cH];by_cases d:j=a
  · subst d;rw[if_neg (by omega),if_pos rfl,if_pos (by simp)];simp
  · by_cases f:a+1≤j∧j<a+1+l.length
    · rw[if_pos f,if_pos (by simp;omega)];obtain⟨g,h⟩:∃g,j-a=g+1:=⟨j-a-1,by omega⟩;have:j-(a+1)=g:=by omega
      rw[h,this];rfl
    · rw[if_neg f,if_neg d,if_neg (by simp;omega)]
theorem Sv(t:Tm)(n i:Nat):Cp t (n+1) i=AD t i::Cp t n (i+1):=rfl
theorem H0(c:Nat→U)(n i:Nat):BY c (n+1) i=c i::BY c n (i+1):=rfl
@[simp] theorem lk(a:Nat→U)(n:Nat):∀b,(BY a n b).length=n:=by
 induction n with
 |zero=>intro b;rfl
 |succ n c=>intro b;rw[H0];simp[c]
theorem Im(c:Nat→U)(n:Nat):∀a j,j<n→(BY c n a).getD j .undef=c (a+j):=by
 induction n with
 |zero=>intro a j b;omega
 |succ n d=>
  intro a j b;rw[H0];cases j with
  |zero=>rfl
  |succ j=>have:=d (a+1) j (by omega);rw[show a+(j+1)=a+1+j from by omega];exact this
@[simp] theorem BI{a:Type}(v:U)(b:U→a):BB v b=b v:=by cases v<;>rfl
@[simp] theorem FQ{a b:Type}(t:Tr b)(c:Tr b→a):FK t c=c t:=by cases t<;>rfl
@[simp] theorem If{b:Type}(l r:List b):Eh l r=l++r:=by
 induction l with
 |nil=>rfl
 |cons a l c=>show a::Eh l r=_;rw[c];rfl
@[simp] theorem CU{b:Type}(l:List b):∀n,Cj l n=l[n]? :=by
 induction l with
 |nil=>intro n;rfl
 |cons a l c=>intro n;cases n with
  |zero=>rfl
  |succ n=>show Cj l n=_;rw[c];rfl
@[simp] theorem kY{b:Type}(n:Nat):∀l:List b,Ho n l=l.drop n:=by
 induction n with
 |zero=>intro l;rfl
 |succ n c=>intro l;cases l with
  |nil=>rfl
  |cons a l=>show Ho n l=_;rw[c];rfl
@[simp] theorem Uk{b:Type}(n:Nat):∀l:List b,FW n l=l.take n:=by
 induction n with
 |zero=>intro l;rfl
 |succ n c=>intro l;cases l with
  |nil=>rfl
  |cons a l=>show a::FW n l=_;rw[c];rfl
@[simp] theorem Fg(b:Bool):Bm b=!b:=by cases b<;>rfl
@[simp] theorem GC(a b:Bool):An a b=(a&&b):=by cases a<;>rfl
@[simp] theorem Yw(a b:Bool):No a b=(a==b):=by cases a<;>cases b<;>rfl
theorem DY(a b:Nat):vS a b=decide (a=b):=by rcases Tr.H6 a b with⟨h,e⟩|⟨h,e⟩<;>rw[e]<;>simp[h]
theorem HI(a b:Nat):vU a b=decide (a≤b):=by
 cases c:vU a b with
 |true=>simp[vX c]
 |false=>
  have:¬a≤b:=λd=>by rw[Nat.ble_eq_true_of_le d] at c;cases c
  simp[this]
end Go.Den
namespace Go.Den
open Go.RowKit
structure Loc where
 blk:Nat
 off:Nat
 size:Nat
abbrev Mu:=P→Option Loc
def Mu.le(μ a:Mu):Prop:=∀b l,μ b=some l→a b=some l
theorem Mu.le.refl(μ:Mu):Mu.le μ μ:=λ_ _ h=>h
theorem Mu.le.trans{a b c:Mu}(h:Mu.le a b)(k:Mu.le b c):Mu.le a c:=λx l e=>k x l (h x l e)
def Mu.set(μ:Mu)(b:P)(l:Loc):Mu:=λc=>if c=b then some l else μ c
theorem Mu.BD(μ:Mu)(b:P)(l:Loc):μ.set b l b=some l:=by simp[Mu.set]
theorem Mu.Bs(μ:Mu){b c:P}(l:Loc)(h:c≠b):μ.set b l c=μ c:=by simp[Mu.set,h]
theorem Mu.LU{μ:Mu}{a:P}{l:Loc}(b:μ a=none):Mu.le μ (μ.set a l):=by
 intro c d f;by_cases e:c=a
 · subst e;rw[b] at f;cases f
 · rw[Mu.Bs μ l e];exact f
def enc:List UInt8→Nat
 |[]=>0
 |c::r=>c.toNat+256*enc r
def Dk(l c:Nat)(s:ByteArray):Prop:=l=s.size∧c=enc s.data.toList
def LC(μ:Mu):Fn→Fn→Prop
 |.yield l,.yield m=>∃q,μ (CH l)=some q∧m=q.blk
 |.yield _,_=>False
 |_,.yield _=>False
 |f,g=>f=g
theorem LC.mono{μ a:Mu}(h:Mu.le μ a){f g:Fn}(r:LC μ f g):LC a f g:=by cases f<;>cases g<;>simp only[LC] at r ⊢<;>first|exact r|(obtain⟨q,b,e⟩:=r;exact⟨q,h _ _ b,e⟩)
def YOk(f:Fn)(c:List U):Prop:=match f with
 |.yield _=>c=[]
 |_=>True
mutual
def VR(μ:Mu):U→Value→Prop
 |.bool b,v=>v=.bool b
 |.int k n,v=>v=.int k n
 |.str l c,v=>∃d,v=.string d∧Dk l c d
 |.Bn,v=>v=.pointer none
 |.ptr b o,v=>∃l,μ b=some l∧v=.pointer (some ⟨l.blk,l.off+o,none⟩)
 |.Af,v=>v=.slice none 0 0
 |.slice b o n sz t,v=>∃a f,v=.slice (some a) n f∧n≤f∧((t=true→f=n)∧∃l,μ b=some l)∧(f=0∨∃l,μ b=some l∧a=⟨l.blk,l.off+o,none⟩∧l.off+o+f*sz≤l.size)
 |.GH,v=>v=.map none
 |.map b,v=>∃l,μ b=some l∧v=.map (some l.blk)
 |.func fn a c,v=>∃g vs ws,v=.func g vs ws∧LC μ fn g∧BN μ a vs.toList∧BN μ c ws.toList∧YOk fn c
 |.IK,v=>v=.nilFunc
 |.iface t x,v=>∃h,v=.iface t h∧VR μ x h
 |.FC,v=>v=.nilIface
 |.agg cs,v=>∃vs,v=.agg vs∧BN μ cs vs.toList∧cs.all U.one=true
 |.tuple cs,v=>∃vs,v=.tuple vs∧BN μ cs vs.toList
 |.top,_=>True
def BN(μ:Mu):List U→List Value→Prop
 |[],vs=>vs=[]
 |c::cs,vs=>∃w ws,vs=w::ws∧VR μ c w∧BN μ cs ws
end
mutual
theorem VR.mono{μ b:Mu}(h:Mu.le μ b):∀(a:U)(v:Value),VR μ a v→VR b a v
 |.bool _,_,r=>r
 |.int _ _,_,r=>r
 |.str _ _,_,r=>r
 |.Bn,_,r=>r
 |.ptr _ _,_,⟨l,d,e⟩=>⟨l,h _ _ d,e⟩
 |.Af,_,r=>r
 |.slice _ _ _ _ _,_,⟨a,f,e,g,⟨i,j,k⟩,m⟩=>⟨a,f,e,g,⟨i,j,h _ _ k⟩,m.imp id λ⟨l,d,r⟩=>⟨l,h _ _ d,r⟩⟩
 |.GH,_,r=>r
 |.map _,_,⟨l,d,e⟩=>⟨l,h _ _ d,e⟩
 |.func _ a c,_,⟨n,o,ws,e,p,q,s,t⟩=>⟨n,o,ws,e,p.mono h,BN.mono h a _ q,BN.mono h c _ s,t⟩
 |.IK,_,r=>r
 |.iface _ x,_,⟨u,e,w⟩=>⟨u,e,VR.mono h x _ w⟩
 |.FC,_,r=>r
 |.agg cs,_,⟨o,e,s,y⟩=>⟨o,e,BN.mono h cs _ s,y⟩
 |.tuple cs,_,⟨o,e,s⟩=>⟨o,e,BN.mono h cs _ s⟩
 |.top,_,_=>trivial
theorem BN.mono{μ a:Mu}(h:Mu.le μ a):∀(b:List U)(d:List Value),BN μ b d→BN a b d
 |[],_,r=>r
 |c::cs,_,⟨w,ws,e,f,g⟩=>⟨w,ws,e,VR.mono h c _ f,BN.mono h cs _ g⟩
end
theorem BN.length{μ:Mu}:∀{a:List U}{vs:List Value},BN μ a vs→vs.length=a.length
 |[],_,r=>by rw[show _=[] from r];rfl
 |_::_,_,⟨_,_,e,_,hs⟩=>by subst e;simp[BN.length hs]
theorem BN.get{μ:Mu}:∀{b:List U}{d:List Value},BN μ b d→∀(f:Nat)(a:U),b[f]? =some a→∃v,d[f]? =some v∧VR μ a v
 |[],_,_,f,a,h=>by simp at h
 |c::cs,_,⟨w,ws,e,g,i⟩,f,a,h=>by
  subst e;cases f with
  |zero=>simp at h;subst h;exact⟨w,rfl,g⟩
  |succ f=>simp at h ⊢;exact BN.get i f a h
theorem BN.je{μ:Mu}:∀{b:List U}{c:List Value},c.length=b.length→(∀(d:Nat)(a:U)(v:Value),b[d]? =some a→c[d]? =some v→VR μ a v)→BN μ b c
 |[],c,f,_=>by
  have:c=[]:=by simpa using f
  exact this
 |g::cs,c,f,h=>by
  cases c with
  |nil=>simp at f
  |cons i ws=>exact⟨i,ws,rfl,h 0 g i rfl rfl,BN.je (by simpa using f) λd a v j k=>h (d+1) a v (by simpa using j) (by simpa using k)⟩
theorem BN.append{μ:Mu}:∀{as a:List U}{vs ws:List Value},BN μ as vs→BN μ a ws→BN μ (as++a) (vs++ws)
 |[],_,_,_,r,b=>by rw[show _=[] from r];exact b
 |_::_,_,_,_,⟨w,ws,e,c,d⟩,b=>by subst e;exact⟨w,_,rfl,c,BN.append d b⟩
theorem BN.take{μ:Mu}:∀{a:List U}{b:List Value}(n:Nat),BN μ a b→BN μ (a.take n) (b.take n)
 |_,_,0,_=>by simp[BN]
 |[],_,n+1,r=>by rw[show _=[] from r];simp[BN]
 |_::_,_,n+1,⟨c,ws,e,d,f⟩=>by subst e;exact⟨c,_,rfl,d,BN.take n f⟩
theorem BN.drop{μ:Mu}:∀{a:List U}{b:List Value}(n:Nat),BN μ a b→BN μ (a.drop n) (b.drop n)
 |_,_,0,r=>r
 |[],_,n+1,r=>by rw[show _=[] from r];simp[BN]
 |_::_,_,n+1,⟨c,ws,e,d,f⟩=>by subst e;exact BN.drop n f
theorem VR.az{μ:Mu}{a:U}{v:Value}(b:VR μ a v)(c:a.one=true):v.oneCell'=true:=by
 cases a<;>simp only[U.one] at c<;>simp only[VR] at b<;>first
  |(subst b;rfl)
  |(obtain⟨_,b,_⟩:=b;subst b;rfl)
  |(obtain⟨_,_,b⟩:=b;subst b;rfl)
  |(obtain⟨_,_,b,_⟩:=b;subst b;rfl)
  |(obtain⟨_,_,_,b,_⟩:=b;subst b;rfl)
  |cases c
theorem VR.undef(μ:Mu):VR μ .undef Go.undef:=⟨#[],rfl,rfl⟩
theorem VR.cells{μ:Mu}{a:U}{v:Value}(b:VR μ a v)(c:a.cells≠[]):BN μ a.cells v.cells.toList∧a.cells.all U.one=true:=by
 cases a
 case agg cs=>obtain⟨vs,rfl,d,f⟩:=b;exact⟨d,f⟩
 case tuple=>simp[U.cells] at c
 case top=>simp[U.cells] at c
 all_goals
  refine⟨?_,rfl⟩;have g:v.cells=#[v]:=by
   simp only[VR] at b
   first
    |(subst b;rfl)
    |(obtain⟨_,b,_⟩:=b;subst b;rfl)
    |(obtain⟨_,_,b⟩:=b;subst b;rfl)
    |(obtain⟨_,_,b,_⟩:=b;subst b;rfl)
    |(obtain⟨_,_,_,b,_⟩:=b;subst b;rfl)
  rw[g];exact⟨v,[],rfl,b,rfl⟩
section
variable{T:Type}
def Ob.own:Ob T→Bool
 |.dead=>false
 |.ext _ _=>false
 |_=>true
def Own(μ:Mu)(h:Hp T)(k:Nat):Prop:=∃b l,(h.at b).own=true∧μ b=some l∧l.blk=k
def Cf(μ:Mu)(c:Nat→U)(n:Nat)(l:Loc)(cs:Array Value):Prop:=
 l.size=cs.size∧l.off+n≤cs.size∧∀i,i<n→∃v,cs[l.off+i]? =some v∧VR μ (c i) v∧(c i).one=true
theorem Cf.mono{μ a:Mu}(h:Mu.le μ a){c:Nat→U}{n:Nat}{l:Loc}{cs:Array Value}(r:Cf μ c n l cs):Cf a c n l cs:=
 ⟨r.1,r.2.1,λb hi=>let ⟨v,d,f,g⟩:=r.2.2 b hi;⟨v,d,VR.mono h _ _ f,g⟩⟩
def Ez(μ:Mu):Es→List MapEntry→Prop
 |[],a=>a=[]
 |e::r,a=>∃x b,a=x::b∧VR μ e.1 x.key∧VR μ e.2.1 x.val∧e.2.2=x.born∧Ez μ r b
theorem Ez.mono{μ b:Mu}(h:Mu.le μ b):∀{a:Es}{c:List MapEntry},Ez μ a c→Ez b a c
 |[],_,r=>r
 |_::_,_,⟨x,d,e,f,g,i,j⟩=>⟨x,d,e,VR.mono h _ _ f,VR.mono h _ _ g,i,Ez.mono h j⟩
def codeOf(x:AX):Option Code:=match x with
 |.normal=>none
 |.exit id=>some (.exit id)
 |.goto l=>some (.goto l)
 |.ret=>some .ret
def Ke(μ:Mu)(a:World)(l:Loc):Ob T→Prop
 |.dead=>True
 |.row t n z e b=>∃cs c,a.heap[l.blk]? =some (.cells cs e c)∧Cf μ (AD t) n l cs∧(b=true→l.off=0∧n=cs.size)∧(z≤n→∀d,l.off+z≤d→d<cs.size→¬(c.1≤d∧d<c.2))
 |.ext g n=>∃cs e c,a.heap[l.blk]? =some (.cells cs e c)∧Cf μ g n l cs
 |.map h i=>∃j,a.heap[l.blk]? =some (.map j i)∧Ez μ h j.toList
 |.iter len k pos=>∃m,a.heap[l.blk]? =some (.stringIter m pos)∧Dk len k m∧l.off=0
 |.loop f m o p=>∃r,a.heap[l.blk]? =some (.loop r)∧r.state=o∧r.pending=codeOf p∧r.params.toList=m.params∧r.assign=m.assign∧r.body=m.body∧m.n≤r.tmps.size∧∀t,VR μ (f t) (r.tmps.getD t undef)
 |.Hq q s u v=>∃w,μ q=some w∧a.heap[l.blk]? =some (.mapIter (some w.blk) s u.toArray v)∧l.off=0
theorem Ke.mono{μ a:Mu}(h:Mu.le μ a){w:World}{l:Loc}{o:Ob T}(r:Ke μ w l o):Ke a w l o:=by
 cases o with
 |dead=>trivial
 |row t n z e b=>obtain⟨cs,d,g,i,j⟩:=r;exact⟨cs,d,g,i.mono h,j⟩
 |ext c n=>obtain⟨cs,e,d,g,i⟩:=r;exact⟨cs,e,d,g,i.mono h⟩
 |map k m=>obtain⟨p,g,i⟩:=r;exact⟨p,g,i.mono h⟩
 |iter len q pos=>exact r
 |loop f s u v=>obtain⟨x,g,i,j,y,a,b,d,k⟩:=r;exact⟨x,g,i,j,y,a,b,d,λt=>VR.mono h _ _ (k t)⟩
 |Hq m p q s=>obtain⟨u,g,i⟩:=r;exact⟨u,h _ _ g,i⟩
theorem Ke.world{μ:Mu}{a b:World}{l:Loc}{o:Ob T}(r:Ke μ a l o)(c:b.heap[l.blk]? =a.heap[l.blk]?):Ke μ b l o:=by
 cases o with
 |dead=>trivial
 |row t n z e d=>obtain⟨cs,g,h,i⟩:=r;exact⟨cs,g,c.trans h,i⟩
 |ext j n=>obtain⟨cs,e,g,h,i⟩:=r;exact⟨cs,e,g,c.trans h,i⟩
 |map k m=>obtain⟨p,h,i⟩:=r;exact⟨p,c.trans h,i⟩
 |iter len q pos=>obtain⟨s,h,i⟩:=r;exact⟨s,c.trans h,i⟩
 |loop f s u v=>obtain⟨x,h,i⟩:=r;exact⟨x,c.trans h,i⟩
 |Hq w y a b=>obtain⟨d,h,i,j⟩:=r;exact⟨d,h,c.trans i,j⟩
theorem Ke.lt{μ:Mu}{a:World}{l:Loc}{o:Ob T}(r:Ke μ a l o)(b:o≠.dead):l.blk<a.heap.size:=by
 have c:∀x,a.heap[l.blk]? =some x→l.blk<a.heap.size:=λx d=>(Array.getElem?_eq_some_iff.1 d).1;cases o with
 |dead=>exact absurd rfl b
 |row t n z e g=>obtain⟨cs,h,i,_⟩:=r;exact c _ i
 |ext j n=>obtain⟨cs,e,h,i,_⟩:=r;exact c _ i
 |map k m=>obtain⟨p,i,_⟩:=r;exact c _ i
 |iter len q pos=>obtain⟨s,i,_⟩:=r;exact c _ i
 |loop f s u v=>obtain⟨x,i,_⟩:=r;exact c _ i
 |Hq w y a d=>obtain⟨b,_,i,_⟩:=r;exact c _ i
structure Bc(μ:Mu)(h:Hp T)(w:World):Prop where
 fresh:∀b l,μ b=some l→b.nat<h.next.nat
 dead:∀b,h.next.nat≤b.nat→h.at b=.dead
 ob:∀b l,h.at b≠.dead→μ b=some l→Ke μ w l (h.at b)
 inj:∀b b' l l',(h.at b).own=true→h.at b'≠.dead→μ b=some l→μ b'=some l'→l.blk=l'.blk→b=b'
structure BF(μ:Mu)(h:Hp T)(w:World)(μ':Mu)(h':Hp T)(w':World):Prop where
 le:Mu.le μ μ'
 size:w.heap.size≤w'.heap.size
 keep:∀k,k<w.heap.size→¬Own μ h k→w'.heap[k]? =w.heap[k]?
 own:∀k,k<w.heap.size→Own μ' h' k→Own μ h k
 ghost:h.next.nat≤h'.next.nat∧∀b,b.nat<h.next.nat→μ b=none→μ' b=none∧h'.at b=h.at b
 os:w'.os=w.os
 tape:w'.tape=w.tape
 output:w'.output=w.output
theorem BF.refl(μ:Mu)(h:Hp T)(w:World):BF μ h w μ h w:=⟨.refl μ,vE _,λ_ _ _=>rfl,λ_ _ o=>o,⟨vE _,λ_ _ e=>⟨e,rfl⟩⟩,rfl,rfl,rfl⟩
theorem BF.trans{μ d f:Mu}{h g i:Hp T}{w j k:World}(a:BF μ h w d g j)(b:BF d g j f i k):BF μ h w f i k:=
 ⟨a.le.trans b.le,vY a.size b.size,
  λl m n=>(b.keep l (vZ m a.size) λo=>n (a.own l m o)).trans (a.keep l m n),
  λl m o=>a.own l m (b.own l (vZ m a.size) o),⟨vY a.ghost.1 b.ghost.1,λc p e=>let ⟨q,r⟩:=a.ghost.2 c p e;let ⟨s,t⟩:=b.ghost.2 c (vZ p a.ghost.1) q;⟨s,t.trans r⟩⟩,b.os.trans a.os,b.tape.trans a.tape,b.output.trans a.output⟩
theorem CO(h:Hp T)(o:Ob T)(b:P):(h.new o).at b=if b=h.next then o else h.at b:=Tr.SK _ _ _ _ _
theorem Eb(h:Hp T)(c:P)(o:Ob T)(b:P):(h.put c o).at b=if b=c then o else h.at b:=Tr.SK _ _ _ _ _
theorem Hf{a:Type}(b:Hp T)(o:Ob T)(c:P→Hp T→a):b.Bu o c=c b.next (b.new o):=by cases b;simp[Hp.Bu,Hp.new]
theorem Gi{a:Type}(h:Hp T)(b:P)(o:Ob T)(c:Hp T→a):h.Gv b o c=c (h.put b o):=by cases h;simp[Hp.Gv,Hp.put]
theorem Bc.none{μ:Mu}{a:Hp T}{w:World}(s:Bc μ a w){b:P}(c:a.next.nat≤b.nat):μ b=none:=by
 cases d:μ b with
 |none=>rfl
 |some l=>exact absurd (s.fresh b l d) (by omega)
theorem Bc.alloc{μ:Mu}{h:Hp T}{w:World}(a:Bc μ h w)(o:Ob T)(x:Obj)(sz c:Nat)
 (d:∀f,Mu.le μ f→Ke f (w.alloc x) ⟨w.heap.size,c,sz⟩ o):
 Bc (μ.set h.next ⟨w.heap.size,c,sz⟩) (h.new o) (w.alloc x)∧BF μ h w (μ.set h.next ⟨w.heap.size,c,sz⟩) (h.new o) (w.alloc x):=by
 have g:μ h.next=wA:=a.none (vE _);have i:=Mu.LU (l:=⟨w.heap.size,c,sz⟩) g;have j:∀k,k<w.heap.size→(w.alloc x).heap[k]? =w.heap[k]? :=λk m=>Below.heap_alloc w x k m;have n:∀b l,h.at b≠.dead→μ b=some l→l.blk<w.heap.size:=λb l p q=>(a.ob b l p q).lt p;have s:(h.new o).next.nat=h.next.nat+1:=P.Ce _;refine⟨⟨?_,?_,?_,?_⟩,⟨i,by simp,λk m _=>j k m,?_,⟨by omega,λb p e=>?_⟩,rfl,rfl,rfl⟩⟩
 · intro b l p;show b.nat<(P.succ h.next).nat;rw[P.Ce];by_cases e:b=h.next
   · subst e;omega
   · rw[Mu.Bs _ _ e] at p;have:=a.fresh b l p;omega
 · intro b p;have t:h.next.nat+1≤b.nat:=by have:(h.new o).next.nat=h.next.nat+1:=P.Ce _;omega
   rw[CO,if_neg (λe=>by subst e;omega)];exact a.dead b (by omega)
 · intro b l p q;rw[CO] at p ⊢;by_cases e:b=h.next
   · subst e;rw[if_pos rfl];rw[Mu.BD] at q;cases q;exact d _ i
   · rw[if_neg e] at p ⊢;rw[Mu.Bs _ _ e] at q;have r:=a.ob b l p q;exact(r.mono i).world (j _ (r.lt p))
 · intro b u l v p t q y f;rw[CO] at p t;by_cases e:b=h.next
   · by_cases c:u=h.next
     · rw[e,c]
     · rw[if_neg c] at t;rw[e,Mu.BD] at q;cases q;rw[Mu.Bs _ _ c] at y;have:=n u v t y;simp at f;omega
   · rw[if_neg e] at p;rw[Mu.Bs _ _ e] at q;have g:h.at b≠.dead:=λs=>by rw[s] at p;cases p
     by_cases c:u=h.next
     · rw[c,Mu.BD] at y;cases y;have:=n b l g q;simp at f;omega
     · rw[if_neg c] at t;rw[Mu.Bs _ _ c] at y;exact a.inj b u l v p t q y f
 · rintro k m ⟨b,l,p,q,rfl⟩;rw[CO] at p;by_cases e:b=h.next
   · rw[e,Mu.BD] at q;cases q;simp at m
   · rw[if_neg e] at p;rw[Mu.Bs _ _ e] at q;exact⟨b,l,p,q,rfl⟩
 · have d:b≠h.next:=λe=>by rw[e] at p;omega
   exact⟨by rw[Mu.Bs _ _ d];exact e,by rw[CO,if_neg d]⟩
theorem Bc.put{μ:Mu}{h:Hp T}{w:World}(s:Bc μ h w){b:P}{l:Loc}(k:(h.at b).own=true)(d:μ b=some l)(o:Ob T)(i:World)
 (hs:i.heap.size=w.heap.size) (v:∀m,m≠l.blk→i.heap[m]? =w.heap[m]?) (a3:Ke μ i l o) (a6:i.os=w.os) (a4:i.tape=w.tape) (a5:i.output=w.output):
 Bc μ (h.put b o) i∧BF μ h w μ (h.put b o) i:=by
 have a1:h.at b≠.dead:=λa0=>by rw[a0] at k;cases k
 have a7:b.nat<h.next.nat:=s.fresh b l d;refine⟨⟨s.fresh,?_,?_,?_⟩,⟨.refl μ,by omega,?_,?_,⟨vE _,λc _ e=>⟨e,?_⟩⟩,a6,a4,a5⟩⟩
 · intro c a;have j:h.next.nat≤c.nat:=a;rw[Eb,if_neg (λe=>by subst e;omega)];exact s.dead c j
 · intro c x a p;rw[Eb] at a ⊢;by_cases e:c=b
   · subst e;rw[if_pos rfl];rw[d] at p;cases p;exact a3
   · rw[if_neg e] at a ⊢;have r:=s.ob c x a p;refine r.world (v _ λf=>e ?_);exact(s.inj b c l x k a d p f.symm).symm
 · intro c n t y a j g q u;rw[Eb] at a j;by_cases e:c=b
   · subst e;by_cases f:n=c
     · exact f.symm
     · rw[if_neg f] at j;rw[d] at g;cases g;exact s.inj c n l y k j d q u
   · rw[if_neg e] at a;by_cases f:n=b
     · subst f;rw[d] at q;cases q;exact s.inj c n t l a a1 g d u
     · rw[if_neg f] at j;exact s.inj c n t y a j g q u
 · intro m _ a2;refine v m λe=>a2 ⟨b,l,k,d,e.symm⟩
 · rintro m _ ⟨c,t,a,g,rfl⟩;rw[Eb] at a;by_cases e:c=b
   · subst e;rw[d] at g;cases g;exact⟨c,l,k,d,rfl⟩
   · rw[if_neg e] at a;exact⟨c,t,a,g,rfl⟩
 · rw[Eb,if_neg (λf=>by rw[f,d] at e;cases e)]
theorem Bc.renew{μ:Mu}{a:Hp T}{b:World}(c:Bc μ a b){d:P}{l:Loc}(f:(a.at d).own=true)(g:μ d=some l)(o:Ob T)(h:World)
 (i:h.heap.size=b.heap.size) (j:∀k,k≠l.blk→h.heap[k]? =b.heap[k]?) (m:∀n,Mu.le μ n→Ke n h l o) (p:h.os=b.os) (q:h.tape=b.tape) (s:h.output=b.output):
 Bc (μ.set a.next l) ((a.put d .dead).new o) h∧BF μ a b (μ.set a.next l) ((a.put d .dead).new o) h:=by
 have t:μ a.next=wA:=c.none (vE _);have u:=Mu.LU (l:=l) t;have v:a.at d≠.dead:=λw=>by rw[w] at f;cases f
 have x:d.nat<a.next.nat:=c.fresh d l g;have y:∀i,((a.put d .dead).new o).at i=if i=a.next then o else if i=d then .dead else a.at i:=λi=>by rw[CO];show(if i=a.next then o else(a.put d .dead).at i)=_;rw[Eb]
 have n:∀i b,i≠d→a.at i≠.dead→μ i=some b→b.blk≠l.blk:=λi b h t v e=>h (c.inj d i l b f t g v e.symm).symm;have x:((a.put d .dead).new o).next.nat=a.next.nat+1:=P.Ce _;refine⟨⟨?_,?_,?_,?_⟩,⟨u,by omega,?_,?_,⟨by omega,λi h e=>?_⟩,p,q,s⟩⟩
 · intro i b h;show i.nat<(P.succ a.next).nat;rw[P.Ce];by_cases e:i=a.next
   · subst e;omega
   · rw[Mu.Bs _ _ e] at h;have:=c.fresh i b h;omega
 · intro i h;have t:a.next.nat+1≤i.nat:=by have:((a.put d .dead).new o).next.nat=a.next.nat+1:=P.Ce _;omega
   rw[y,if_neg (λe=>by subst e;omega)];split
   · rfl
   · exact c.dead i (by omega)
 · intro i b h x;rw[y] at h ⊢;by_cases e:i=a.next
   · subst e;rw[if_pos rfl];rw[Mu.BD] at x;cases x;exact m _ u
   · rw[if_neg e] at h ⊢;rw[Mu.Bs _ _ e] at x;by_cases p:i=d
     · rw[if_pos p] at h;exact absurd rfl h
     · rw[if_neg p] at h ⊢;have r:=c.ob i b h x;exact(r.mono u).world (j _ (n i b p h x))
 · intro i q s m h t v b u;rw[y] at h t;by_cases e:i=a.next
   · by_cases p:q=a.next
     · rw[e,p]
     · rw[if_neg p] at t;by_cases x:q=d
       · rw[if_pos x] at t;exact absurd rfl t
       · rw[if_neg x] at t;rw[e,Mu.BD] at v;cases v;rw[Mu.Bs _ _ p] at b;exact absurd u.symm (n q m x t b)
   · rw[if_neg e] at h;rw[Mu.Bs _ _ e] at v;by_cases x:i=d
     · rw[if_pos x] at h;cases h
     · rw[if_neg x] at h;have a0:a.at i≠.dead:=λw=>by rw[w] at h;cases h
       by_cases p:q=a.next
       · rw[p,Mu.BD] at b;cases b;exact absurd u (n i s x a0 v)
       · rw[if_neg p] at t;rw[Mu.Bs _ _ p] at b;by_cases w:q=d
         · rw[if_pos w] at t;exact absurd rfl t
         · rw[if_neg w] at t;exact c.inj i q s m h t v b u
 · intro k _ n;exact j k λe=>n ⟨d,l,f,g,e.symm⟩
 · rintro k _ ⟨i,s,h,v,rfl⟩;rw[y] at h;by_cases e:i=a.next
   · rw[e,Mu.BD] at v;cases v;exact⟨d,l,f,g,rfl⟩
   · rw[if_neg e] at h;rw[Mu.Bs _ _ e] at v;by_cases x:i=d
     · rw[if_pos x] at h;cases h
     · rw[if_neg x] at h;exact⟨i,s,h,v,rfl⟩
 · have w:i≠a.next:=λe=>by rw[e] at h;omega
   have b:i≠d:=λp=>by rw[p,g] at e;cases e
   exact⟨by rw[Mu.Bs _ _ w];exact e,by rw[y,if_neg w,if_neg b]⟩
theorem Bc.heap{μ:Mu}{h:Hp T}{w a:World}(c:Bc μ h w)(d:a.heap=w.heap):Bc μ h a:=
 ⟨c.fresh,c.dead,λb l f g=>(c.ob b l f g).world (by rw[d]),c.inj⟩
theorem BF.heap(μ:Mu)(h:Hp T){w a:World}(b:a.heap=w.heap)(c:a.os=w.os)(d:a.tape=w.tape)(f:a.output=w.output):BF μ h w μ h a:=
 ⟨.refl μ,by rw[b];exact vE _,λ_ _ _=>by rw[b],λ_ _ o=>o,⟨vE _,λ_ _ e=>⟨e,rfl⟩⟩,c,d,f⟩
end
end Go.Den
namespace Go.Den
open Go.RowKit
theorem Mj{b:Type}{c:b→Prop}{d a:b}(f:¬c d){g:Bool}(h:c (wg d a g)):g=true∧c a:=by
 cases g with
 |false=>exact absurd h f
 |true=>exact⟨rfl,h⟩
theorem H9{a b:Type}{good:a→Prop}{c:a}(d:¬good c){o:Option b}{f:b→a}(g:good (wz c f o)):∃x,o=some x∧good (f x):=by
 cases o with
 |none=>exact absurd g d
 |some x=>exact⟨x,rfl,g⟩
theorem E1(a b c:Nat):(⟨a,b,none⟩:Addr).add c=⟨a,b+c,none⟩:=by unfold Addr.add;split<;>simp_all
section
variable{P:Program}{w:World}
theorem GQ{a:Nat}{cs:Array Value}{e:TypeId}{b:Nat×Nat}(c:w.heap[a]? =some (.cells cs e b))(j:Nat):w.cell? ⟨a,j,none⟩=cs[j]? :=by simp[World.cell?,c]
theorem KY{a:Addr}{v:Value}(h:w.cell? a=some v):(load a).run P w=.ok v w:=by simp[h]
theorem run_loadCellsFrom{a b:Nat}{cs:Array Value}{e:TypeId}{c:Nat×Nat}(d:w.heap[a]? =some (.cells cs e c)):
 ∀(n f:Nat)(g:Array Value),b+f+n≤cs.size→(loadCellsFrom ⟨a,b,none⟩ f n g).run P w=.ok (g++cs.extract (b+f) (b+f+n)) w:=by
 intro n;induction n with
 |zero=>intro f g _;simp[loadCellsFrom];omega
 |succ n h=>
  intro f g i;have j:w.cell? ((⟨a,b,none⟩:Addr).add f)=some cs[b+f]:=by rw[E1,GQ d];simp
  unfold loadCellsFrom;rw[Sem.run_bind,KY j,Result.andThen_ok,h _ _ (by omega)];congr 1;apply Array.ext';simp only[Array.toList_append,Array.toList_push,Array.toList_extract,List.append_assoc];congr 1;have k:b+(f+1)+n-(b+(f+1))=n:=by omega
  have l:b+f+(n+1)-(b+f)=n+1:=by omega
  simp only[List.extract_eq_take_drop,k,l];rw[show cs.toList.drop (b+f)=cs[b+f]::cs.toList.drop (b+(f+1)) from by rw[←Array.getElem_toList,show b+(f+1)=b+f+1 from by omega];exact List.drop_eq_getElem_cons (by simp;omega)];rfl
theorem run_loadCells{a b:Nat}{cs:Array Value}{e:TypeId}{c:Nat×Nat}(d:w.heap[a]? =some (.cells cs e c))(n:Nat)(f:b+n≤cs.size):
 (loadCells ⟨a,b,none⟩ n).run P w=.ok (cs.extract b (b+n)) w:=by
 have:=run_loadCellsFrom (P:=P) d n 0 #[] (by omega);simpa[loadCells] using this
structure HO(w w':World)(g:Nat)(cs':Array Value)(e:TypeId)(fz:Nat×Nat):Prop where
 here:w'.heap[g]? =some (.cells cs' e fz)
 size:w'.heap.size=w.heap.size
 other:∀k,k≠g→w'.heap[k]? =w.heap[k]?
 os:w'.os=w.os
 tape:w'.tape=w.tape
 output:w'.output=w.output
theorem HO.trans{w c d:World}{g:Nat}{a b:Array Value}{e f:TypeId}{j k:Nat×Nat}(h:HO w c g a e j)(l:HO c d g b f k):HO w d g b f k:=
 ⟨l.here,l.size.trans h.size,λi hi=>(l.other i hi).trans (h.other i hi),l.os.trans h.os,l.tape.trans h.tape,l.output.trans h.output⟩
theorem HO.self{a:Nat}{cs:Array Value}{e:TypeId}{b:Nat×Nat}(c:w.heap[a]? =some (.cells cs e b)):HO w w a cs e b:=⟨c,rfl,λ_ _=>rfl,rfl,rfl,rfl⟩
theorem Su{a j:Nat}{cs:Array Value}{e:TypeId}{b:Nat×Nat}(c:w.heap[a]? =some (.cells cs e b))(d:j<cs.size)(f:¬(b.1≤j∧j<b.2)){v:Value}(g:v.oneCell'=true):
 ∃h,(store ⟨a,j,none⟩ v).run P w=.ok () h∧HO w h a (cs.setIfInBounds j v) e b:=by
 obtain⟨lo,hi⟩:=b;have i:w.cell? ⟨a,j,none⟩=some cs[j]:=by rw[GQ c];simp[d]
 have k:w.frozen? ⟨a,j,none⟩=false:=by simp only[World.frozen?,c];simpa using f
 refine⟨w.setCell ⟨a,j,none⟩ v,?_,?_,?_,?_,rfl,rfl,rfl⟩
 · have l:=run_store P w ⟨a,j,none⟩ v .plain g;rw[l];simp[i,k]
 · simp only[World.setCell,Array.getElem?_modify,c];simp
 · simp[World.setCell]
 · intro m n;simp only[World.setCell,Array.getElem?_modify];rw[if_neg (by simpa using λo=>n o.symm)]
def splice(cs:Array Value)(o:Nat):List Value→Array Value
 |[]=>cs
 |v::a=>splice (cs.setIfInBounds o v) (o+1) a
@[simp] theorem Aho(a:List Value):∀(cs:Array Value)(o:Nat),(splice cs o a).size=cs.size:=by
 induction a with
 |nil=>intro cs o;rfl
 |cons v a b=>intro cs o;rw[splice,b];simp
theorem Pw(a:List Value):∀(cs:Array Value)(o j:Nat),o+a.length≤cs.size→(splice cs o a)[j]? =if o≤j∧j<o+a.length then a[j-o]? else cs[j]? :=by
 induction a with
 |nil=>intro cs o j _;rw[splice,if_neg (by simp)]
 |cons v a b=>
  intro cs o j c;simp only[l6] at c;rw[splice,b _ _ _ (by simp;omega)];by_cases d:o+1≤j∧j<o+1+a.length
  · rw[if_pos d,if_pos (by simp;omega)];obtain⟨f,g⟩:∃f,j-o=f+1:=⟨j-o-1,by omega⟩;rw[g,show j-(o+1)=f from by omega];rfl
  · rw[if_neg d];by_cases h:j=o
    · subst h;rw[if_pos (by simp)];simp[show j<cs.size from by omega]
    · rw[if_neg (by simp;omega)];rw[Array.getElem?_setIfInBounds_ne (by omega)]
theorem Jv{a off:Nat}{e:TypeId}{b:Nat×Nat}:∀(c:List Value)(d:Nat)(cs:Array Value)(w:World),w.heap[a]? =some (.cells cs e b)→off+d+c.length≤cs.size→
 (∀j,off+d≤j→j<off+d+c.length→¬(b.1≤j∧j<b.2))→(∀v∈c,v.oneCell'=true)→
 ∃f,(storeCells ⟨a,off,none⟩ c d).run P w=.ok () f∧HO w f a (splice cs (off+d) c) e b:=by
 intro c;induction c with
 |nil=>intro d cs w g _ _ _;exact⟨w,rfl,.self g⟩
 |cons v c h=>
  intro d cs w g i k l;simp only[l6] at i k;obtain⟨m,n,o⟩:=Su (P:=P) g (j:=off+d) (by omega) (k _ (by omega) (by omega)) (l v (by simp));obtain⟨p,q,r⟩:=h (d+1) _ m o.here (by simp;omega) (λj s t=>k j (by omega) (by omega)) (λu x=>l u (by simp[x]));refine⟨p,?_,?_⟩
  · unfold storeCells;rw[Sem.run_bind,E1,n,Result.andThen_ok,q]
  · have:=o.trans r;rw[splice,show off+d+1=off+(d+1) from by omega];exact this
end
section
variable{μ:Mu}{c:Nat→U}{n:Nat}{l:Loc}{cs:Array Value}
theorem Cf.extract(r:Cf μ c n l cs)(o b:Nat)(d:o+b≤n):BN μ (BY c b o) (cs.extract (l.off+o) (l.off+o+b)).toList:=by
 have f:=r.2.1;refine BN.je ?_ λg a v h i=>?_
 · simp;omega
 · have hi:g<b:=by have:=(List.getElem?_eq_some_iff.1 h).1;simpa using this
   obtain⟨j,k,m,_⟩:=r.2.2 (o+g) (by omega);have p:a=c (o+g):=by have:=Im c b o g hi;rw[vM,h] at this;exact this
   have q:v=j:=by
    have s:(cs.extract (l.off+o) (l.off+o+b))[g]? =some v:=by rw[←Array.getElem?_toList];exact i
    rw[Array.getElem?_extract,if_pos (by omega),Nat.add_assoc,k] at s;cases s;rfl
   rw[p,q];exact m
theorem Cf.Mr(r:Cf μ c n l cs)(o a:Nat)(b:o+a≤n):(BY c a o).all U.one=true:=by
 rw[wm];intro x d;obtain⟨f,hi,rfl⟩:=wo d;have g:f<a:=by simpa using hi
 have:=Im c a o f g;rw[vM,wq hi] at this;simp at this;rw[this];exact(r.2.2 (o+f) (by omega)).elim λ_ b=>b.2.2
theorem GY(t:Tm)(a:Nat):∀o,Cp t a o=BY (AD t) a o:=by
 induction a with
 |zero=>intro o;rfl
 |succ a b=>intro o;rw[Sv,H0,b]
theorem Cf.store{t:Tm}(r:Cf μ (AD t) n l cs)(o:Nat){a:List U}{b:List Value}(c:BN μ a b)(d:a.all U.one=true)(f:o+a.length≤n):
 Cf μ (AD (Ai a o t)) n l (splice cs (l.off+o) b):=by
 have g:=c.length;have h:=r.2.1;refine⟨by simp[r.1],by simpa using h,λi hi=>?_⟩;rw[Pw _ _ _ _ (by omega),Am];by_cases j:o≤i∧i<o+a.length
 · rw[if_pos (by omega),if_pos j];have k:a[i-o]? =some (a[i-o]'(by omega)):=wq (by omega);obtain⟨v,m,p⟩:=c.get _ _ k;refine⟨v,by rw[show l.off+i-(l.off+o)=i-o from by omega];exact m,?_,?_⟩
   · rw[vM,k];exact p
   · rw[vM,k];exact(wm.1 d) _ (wu _)
 · rw[if_neg (by omega),if_neg j];exact r.2.2 i hi
theorem Cf.new{a:List U}{vs:List Value}(b:BN μ a vs)(c:a.all U.one=true)(g:Nat):Cf μ (AD (Ai a 0 .e)) a.length ⟨g,0,vs.length⟩ vs.toArray:=by
 have d:=b.length;refine⟨by simp,by simp[d],λi hi=>?_⟩;have f:a[i]? =some a[i]:=wq hi;obtain⟨v,h,j⟩:=b.get _ _ f;rw[Am,if_pos (by omega)];refine⟨v,by simpa using h,?_,?_⟩
 · rw[vM,we,f];exact j
 · rw[vM,we,f];exact(wm.1 c) _ (wu _)
end
section
variable{α T:Type}{good:α→Prop}{bad:α}{μ:Mu}{h:Hp T}{w:World}
theorem Bc.rowOf(a:Bc μ h w){b:P}{d:Loc}(f:μ b=some d){r:Gh}(g:CG (h.at b)=r):
 (∀t n z e j,r=.row t n z e j→h.at b=.row t n z e j∧∃l cs k,μ b=some l∧w.heap[l.blk]? =some (.cells cs e k)∧Cf μ (AD t) n l cs∧(j=true→l.off=0∧n=cs.size)∧(z≤n→∀i,l.off+z≤i→i<cs.size→¬(k.1≤i∧i<k.2)))∧
 (∀c n,r=.ext c n→∃l cs e k,μ b=some l∧w.heap[l.blk]? =some (.cells cs e k)∧Cf μ c n l cs):=by
 refine⟨λt n z e j m=>?_,λc n m=>?_⟩
 · rw[m] at g;cases o:h.at b with
   |row p q s u v=>rw[o] at g;have:Gh.row p q s u v=Gh.row t n z e j:=g;cases this;have y:=f;have x:=a.ob b d (by rw[o];simp) y;rw[o] at x;obtain⟨cs,k,j,p,s,u⟩:=x;exact⟨rfl,d,cs,k,y,j,p,s,u⟩
   |_=>rw[o] at g;cases g
 · rw[m] at g;cases o:h.at b with
   |ext v q=>rw[o] at g;have:Gh.ext v q=Gh.ext c n:=g;cases this;have y:=f;have x:=a.ob b d (by rw[o];simp) y;rw[o] at x;obtain⟨cs,e,k,j,p⟩:=x;exact⟨d,cs,e,k,y,j,p⟩
   |_=>rw[o] at g;cases g
theorem Bc.read(a:Bc μ h w){c:Loc}(d:¬good bad){b:P}{off n:Nat}{k:List U→α}(f:μ b=some c)(g:good (h.ES b off n bad k)):
 ∃l cs e i j,μ b=some l∧w.heap[l.blk]? =some (.cells cs e i)∧l.size=cs.size∧l.off+off+n≤cs.size∧BN μ j (cs.extract (l.off+off) (l.off+off+n)).toList∧j.all U.one=true∧j.length=n∧good (k j):=by
 unfold Hp.ES at g;have m:=a.rowOf (b:=b) f rfl;cases o:CG (h.at b) with
 |no=>rw[o] at g;exact absurd g d
 |row t p z e q=>
  rw[o] at g;have g:good (GJ off n bad k t p):=g;unfold GJ at g;rw[show vN off n=off+n from rfl,HI] at g;by_cases r:off+n≤p
  · rw[decide_eq_true r] at g;have g:good (k (Cp t n off)):=g;rw[GY] at g;obtain⟨_,l,cs,i,s,u,v,_⟩:=m.1 t p z e q o;exact⟨l,cs,e,i,_,s,u,v.1,by have:=v.2.1;omega,v.extract off n r,v.Mr off n r,by simp,g⟩
  · rw[decide_eq_false r] at g;exact absurd g d
 |ext x p=>
  rw[o] at g;have g:good (M3 off n bad k x p):=g;unfold M3 at g;rw[show vN off n=off+n from rfl,HI] at g;by_cases r:off+n≤p
  · rw[decide_eq_true r] at g;have g:good (k (BY x n off)):=g;obtain⟨l,cs,e,i,s,u,v⟩:=m.2 x p o;exact⟨l,cs,e,i,_,s,u,v.1,by have:=v.2.1;omega,v.extract off n r,v.Mr off n r,by simp,g⟩
  · rw[decide_eq_false r] at g;exact absurd g d
theorem Bc.E4(c:Bc μ h w){d:Loc}(f:¬good bad){b:P}{g:Nat}{k:U→α}(i:μ b=some d)(j:good (h.EP b g bad k)):
 ∃l v a,μ b=some l∧w.cell? ⟨l.blk,l.off+g,wA⟩=some v∧VR μ a v∧a.one=true∧good (k a):=by
 unfold Hp.EP at j;have m:=c.rowOf (b:=b) i rfl;cases n:CG (h.at b) with
 |no=>rw[n] at j;exact absurd j f
 |row t o z e p=>
  rw[n] at j;have j:good (JV g bad k t o):=j;unfold JV at j;rw[show vN g 1=g+1 from rfl,HI] at j;by_cases q:g+1≤o
  · rw[decide_eq_true q] at j;have j:good (BB (AD t g) k):=j;rw[BI] at j;obtain⟨_,l,cs,r,s,u,x,_⟩:=m.1 t o z e p n;obtain⟨v,y,n,d⟩:=x.2.2 g (by omega);exact⟨l,v,_,s,(GQ u _).trans y,n,d,j⟩
  · rw[decide_eq_false q] at j;exact absurd j f
 |ext c o=>
  rw[n] at j;have j:good (NC g bad k c o):=j;unfold NC at j;rw[show vN g 1=g+1 from rfl,HI] at j;by_cases q:g+1≤o
  · rw[decide_eq_true q] at j;have j:good (BB (c g) k):=j;rw[BI] at j;obtain⟨l,cs,e,r,s,u,x⟩:=m.2 c o n;obtain⟨v,y,n,d⟩:=x.2.2 g (by omega);exact⟨l,v,_,s,(GQ u _).trans y,n,d,j⟩
  · rw[decide_eq_false q] at j;exact absurd j f
theorem Bc.write{Pr:Program}(a:Bc μ h w){c:Loc}(d:¬good bad){b:Go.Den.P}{off:Nat}{f:List U}{vs:List Value}{k:Hp T→α}(g:μ b=some c)(i:good (h.Ew b off f bad k))(m:BN μ f vs)(n:f.all U.one=true):
 ∃l o p,μ b=some l∧(storeCells ⟨l.blk,l.off+off,wA⟩ vs).run Pr w=.ok () o∧Bc μ p o∧BF μ h w μ p o∧good (k p):=by
 unfold Hp.Ew at i;have q:=a.rowOf (b:=b) g rfl;cases r:CG (h.at b) with
 |no=>rw[r] at i;exact absurd i d
 |ext s u=>rw[r] at i;exact absurd i d
 |row t u z e x=>
  rw[r] at i;have i:good (LA h b off f bad k t u z e x):=i;unfold LA at i;obtain⟨y,i⟩:=Mj d i;obtain⟨c,i⟩:=Mj d i;have y:z≤off:=vX y;have c:off+f.length≤u:=by have:=vX c;rwa [BU] at this
  rw[FQ,Gi] at i;obtain⟨p,l,cs,g,s,d,y,c,a0⟩:=q.1 t u z e x r;have q:=m.length;have r:=y.2.1;have q:∀v∈vs,v.oneCell'=true:=by intro v r;obtain⟨a1,hi,rfl⟩:=wo r;have r:f[a1]? =some (f[a1]'(by omega)):=wq (by omega);obtain⟨v,a1,a2⟩:=m.get _ _ r;rw[wq hi] at a1;cases a1;exact a2.az ((wm.1 n) _ (wu _))
  obtain⟨o,r,a1⟩:=Jv (P:=Pr) (off:=l.off+off) vs 0 cs w d (by omega) (λj a2 a3=>a0 (by omega) j (by omega) (by omega)) q;rw[Nat.add_zero] at a1;obtain⟨d,q⟩:=a.put (o:=.row (Ai f off t) u z e x) (by rw[p];rfl) s o a1.size a1.other
   ⟨_,g,a1.here,y.store off m n (by omega),by simpa using c,by simpa using a0⟩ a1.os a1.tape a1.output
  exact⟨l,o,_,s,r,d,q,i⟩
end
end Go.Den
namespace Go.Den
open Go.RowKit
def Nv(d:TypeDesc):Bool:=match d with
 |.struct _=>true
 |.array _ _=>true
 |_=>false
structure gI(P:Program)(t:TypeId)(i:TI)(ti:TypeInfo)(z:Value):Prop where
 info:P.info? t=some ti
 HB:P.underlying t=some i.desc
 size:ti.size=i.size
 bytes:ti.bytes=i.bytes
 agg:i.agg=Nv i.desc
 zero:ti.zero=some z
 cells:∀μ,BN μ i.zero z.cells.toList
 Mr:i.zero.all U.one=true
 Bfb:∀μ a,zeroOf i=some a→VR μ a z
 plain:i.plain=true→P.stoodInHeld t=false∧P.eqGuardType P.depth t=false
 Avl:i.ms=ti.methods.toList
section
variable{P:Program}{w:World}
theorem Aa{b c:Type}{d:Sem b}{f:b→Sem c}{a:b}{w w':World}(g:d.run P w=.ok a w'):(d >>= f).run P w=(f a).run P w':=by rw[Sem.run_bind,g];rfl
theorem run_pure{b:Type}{a:b}:(pure a:Sem b).run P w=.ok a w:=rfl
theorem AZ{t:TypeId}{d:TypeDesc}(h:P.underlying t=some d):(underlying t).run P w=.ok d w:=by unfold underlying;rw[Aa (show program.run P w=.ok P w from rfl),h];rfl
theorem FZ{t:TypeId}{d:TypeInfo}(h:P.info? t=some d):(typeInfo t).run P w=.ok d w:=by unfold typeInfo;rw[Aa (show program.run P w=.ok P w from rfl),h];rfl
namespace gI
variable{t:TypeId}{i:TI}{ti:TypeInfo}{z:Value}(k:gI P t i ti z)
include k
theorem Pm:(underlying t).run P w=.ok i.desc w:=AZ k.HB
theorem rsize:(sizeOf t).run P w=.ok i.size w:=by unfold sizeOf;rw[Aa (FZ k.info),k.size];rfl
theorem JB:(zeroValue t).run P w=.ok z w:=by unfold zeroValue;rw[Aa (FZ k.info),k.zero];rfl
theorem Aem:(isAgg t).run P w=.ok i.agg w:=by unfold isAgg;rw[Aa k.Pm,k.agg];cases i.desc<;>rfl
end gI
end
structure Bt(P:Program)(E:Env):Prop where
 ty:∀t i,E.ty t=some i→∃ti z,gI P t i ti z
 fn:∀f fn,E.fn f=some fn→P.funcs[f]? =some fn
 Bam:∀t i fs,E.ty t=some i→i.desc=.struct fs→∀f∈fs.toList,∃j,E.ty f.type=some j
def CM{b:Type}(P:Program)(μ:Mu)(c:Hp b)(w:World)(d:Sem Value)(a:U)(f:Hp b):Prop:=
 ∃v g h,d.run P w=.ok v g∧Bc h f g∧BF μ c w h f g∧VR h a v
theorem CM.here{b:Type}{P:Program}{μ:Mu}{c:Hp b}{w:World}{d:Sem Value}{a:U}{v:Value}(hs:Bc μ c w)(f:d.run P w=.ok v w)(g:VR μ a v):CM P μ c w d a c:=
 ⟨v,w,μ,f,hs,.refl _ _ _,g⟩
section
variable{β γ:Type}
theorem Ah{o:Option β}{k:β→Option γ}{r:γ}(h:(wz none k o:Option γ)=some r):∃x,o=some x∧k x=some r:=by
 cases o with
 |none=>cases h
 |some x=>exact⟨x,rfl,h⟩
theorem AK{b:Bool}{k:Option γ}{r:γ}(h:(wg none k b:Option γ)=some r):b=true∧k=some r:=by
 cases b with
 |false=>cases h
 |true=>exact⟨rfl,h⟩
theorem Ki{b:Bool}{k:Option γ}{r:γ}(h:(wg k none b:Option γ)=some r):b=false∧k=some r:=by
 cases b with
 |false=>exact⟨rfl,h⟩
 |true=>cases h
theorem Fj{T:Type}{h:Hp T}{o:Option U}{r:U×Hp T}(e:C3 h o=some r):o=some r.1∧r.2=h:=by
 cases o with
 |none=>cases e
 |some v=>cases e;exact⟨rfl,rfl⟩
theorem Ao{a b:Bool}(h:An a b=true):a=true∧b=true:=by rw[GC] at h;simpa using h
theorem Bq{a b:Nat}(h:vU a b=true):a≤b:=vX h
theorem Bh{a b:Nat}(h:vS a b=true):a=b:=vW h
end
end Go.Den
