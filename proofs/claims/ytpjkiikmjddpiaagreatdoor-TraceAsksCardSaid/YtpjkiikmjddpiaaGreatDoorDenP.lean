/-
  A part of the proof: DenP, DenPa, DenPb, DenPc, DenPd.
-/
import Derived.Test.YtpjkiikmjddpiaaGreatDoorDenA
import Derived.Test.YtpjkiikmjddpiaaGreatDoorDenC
/-
  The interpreter in another form: each operation by a primitive that knows the static types; frames are functions; it answers a proposition.
  (What a program prints for each function is, by reduction alone, this interpreter at that function.)
-/
namespace Go.Den

abbrev FT:=Nat→AV
abbrev H:=Hp FT
abbrev KV:=AV→H→Prop
noncomputable def fset (f:FT) (d:Nat) (v:AV):FT:=fun u=>Bool.rec (f u) v (Nat.beq u d)
noncomputable def finit (l:List AV):FT:=fun t=>Option.rec .undef (fun v=>v) (getL l t)
noncomputable def funI:FI where
  T:=FT
  init l:=finit l
  get f t:=f t
  set f t v:=fset f t v
  force f k:=k f
noncomputable abbrev CP (E:Env):Cx Prop:=⟨E,funI,False⟩

/-! ### Primitives -/
noncomputable def fN (n:Nat) (K:Nat→Prop):Prop:=Nat.rec False (fun m _=>K m) (Nat.succ n)
noncomputable def fI (n:Int) (K:Int→Prop):Prop:=Int.rec (fun m=>fN m (fun m=>K (.ofNat m))) (fun m=>fN m (fun m=>K (.negSucc m))) n
noncomputable def natI (n:Int) (K:Nat→Prop):Prop:=Int.rec (fun m=>K m) (fun _=>False) n
noncomputable def joinB (M:(Bool→H→Prop)→Prop) (k:Bool→H→Prop):Prop:=M k
noncomputable def oV {α:Type} (o:Option α) (K:α→Prop):Prop:=Option.rec False K o
noncomputable def oK (o:Option (AV×H)) (k:KV):Prop:=Option.rec False (fun p=>Prod.rec (fun v h=>forceV v (fun v=>Hp.rec (fun m n=>forceT m (fun m=>k v ⟨m,n⟩)) h)) p) o
noncomputable def cnd (t:Bool) (A B:Prop):Prop:=Bool.rec B A t
noncomputable def gate (w t:Bool) (A B:Prop):Prop:=Bool.rec (Bool.rec A B t) (Bool.rec B A t) w

/-- a string's byte; a cut of one; two put together -/
noncomputable def idxS (l c i:Nat) (K:Nat→Prop):Prop:=Bool.rec False (fN (strGet c i) K) (Nat.ble (Nat.add i 1) l)
noncomputable def cutS (l c lo hi:Nat) (K:Nat→Nat→Prop):Prop:=Bool.rec False (fN (Nat.sub hi lo) (fun n=>fN (strCut c lo hi) (fun d=>K n d))) (band (Nat.ble lo hi) (Nat.ble hi l))
noncomputable def catS (l c m d:Nat) (K:Nat→Nat→Prop):Prop:=Bool.rec False (fN (Nat.add l m) (fun n=>fN (strCat l c d) (fun e=>K n e))) (Nat.ble (Nat.add l m) (intMax .i64))
noncomputable def ltS (l c m d:Nat):Bool:=strLess (strBytes l c) (strBytes m d)
noncomputable def quoI (k:IntKind) (a b:Int) (K:Int→Prop):Prop:=Bool.rec (fI (wrap k (a.tdiv b)) K) False (ibeq b (.ofNat 0))
noncomputable def remI (a b:Int) (K:Int→Prop):Prop:=Bool.rec (fI (a.tmod b) K) False (ibeq b (.ofNat 0))
noncomputable def shlI (k:IntKind) (a b:Int) (K:Int→Prop):Prop:=natI b (fun b=>fI (wrap k (a*2^(min b k.bits))) K)
noncomputable def shrI (k:IntKind) (a b:Int) (K:Int→Prop):Prop:=natI b (fun b=>fI (a.fdiv (2^(min b k.bits))) K)
noncomputable def nat2 (a b:Int) (K:Nat→Nat→Prop):Prop:=natI a (fun a=>natI b (fun b=>K a b))
noncomputable def bitI (g:Nat→Nat→Nat) (k:IntKind) (a b:Int) (K:Int→Prop):Prop:=nat2 a b (fun a b=>Bool.rec False (fN (g a b) (fun n=>K (.ofNat n))) (band (Nat.ble a (intMax k)) (Nat.ble b (intMax k))))

/-- all that is low (what may be unfolded later than what comes next) -/
noncomputable def low (n:Nat):Nat:=(fun(_:Nat→(Nat→Prop)→Prop)(_:Int→(Int→Prop)→Prop)(_:((Bool→H→Prop)→Prop)→(Bool→H→Prop)→Prop)(_:Nat→Nat→Nat→(Nat→Prop)→Prop)(_:Nat→Nat→Nat→Nat→(Nat→Nat→Prop)→Prop)(_:Nat→Nat→Nat→Nat→(Nat→Nat→Prop)→Prop)
  (_:IntKind→Int→Int→(Int→Prop)→Prop) (_:IntKind→Int→Int→(Int→Prop)→Prop) (_:IntKind→Int→Int→(Int→Prop)→Prop) (_:(Nat→Nat→Nat)→IntKind→Int→Int→(Int→Prop)→Prop) (_:Option (AV×H)→KV→Prop) (_:H→P→Nat→Prop→(AV→Prop)→Prop) (_:H→P→Nat→List AV→Prop→(H→Prop)→Prop) (_:H→Ob FT→(P→H→Prop)→Prop)=>n)
  fN fI joinB idxS cutS catS quoI shlI shrI bitI oK (fun h b o x k=>h.read1K b o x k) (fun h b o l x k=>h.writeK b o l x k) (fun h o k=>h.newK o k)
noncomputable def bad0:Prop:=(fun(_:Nat)=>False) (low 0)

def ikEq(a b:IntKind):Bool:=match a with
  |.i8=>match b with|.i8=>true|_=>false
  |.i16=>match b with|.i16=>true|_=>false
  |.i32=>match b with|.i32=>true|_=>false
  |.i64=>match b with|.i64=>true|_=>false
  |.u8=>match b with|.u8=>true|_=>false
  |.u16=>match b with|.u16=>true|_=>false
  |.u32=>match b with|.u32=>true|_=>false
  |.u64=>match b with|.u64=>true|_=>false

noncomputable def chk (b:Bool) (K:Prop):Prop:=Bool.rec bad0 K b
section
/-- a value's parts -/
noncomputable def asI (k:IntKind) (v:AV) (K:Int→Prop):Prop:=AV.rec (motive_1:=fun _=>Prop) (motive_2:=fun _=>Unit)
  (fun _=>bad0) (fun j n=>Bool.rec bad0 (K n) (ikEq k j)) (fun _ _=>bad0) bad0 (fun _ _=>bad0) bad0 (fun _ _ _ _ _=>bad0) bad0 (fun _=>bad0) (fun _ _ _ _ _=>bad0) bad0 (fun _ _ _=>bad0) bad0 (fun _ _=>bad0) (fun _ _=>bad0) bad0 () (fun _ _ _ _=>()) v
noncomputable def asIx (v:AV) (K:Int→Prop):Prop:=AV.rec (motive_1:=fun _=>Prop) (motive_2:=fun _=>Unit)
  (fun _=>bad0) (fun _ n=>K n) (fun _ _=>bad0) bad0 (fun _ _=>bad0) bad0 (fun _ _ _ _ _=>bad0) bad0 (fun _=>bad0) (fun _ _ _ _ _=>bad0) bad0 (fun _ _ _=>bad0) bad0 (fun _ _=>bad0) (fun _ _=>bad0) bad0 () (fun _ _ _ _=>()) v
noncomputable def asB (v:AV) (K:Bool→Prop):Prop:=AV.rec (motive_1:=fun _=>Prop) (motive_2:=fun _=>Unit)
  (fun b=>K b) (fun _ _=>bad0) (fun _ _=>bad0) bad0 (fun _ _=>bad0) bad0 (fun _ _ _ _ _=>bad0) bad0 (fun _=>bad0) (fun _ _ _ _ _=>bad0) bad0 (fun _ _ _=>bad0) bad0 (fun _ _=>bad0) (fun _ _=>bad0) bad0 () (fun _ _ _ _=>()) v
noncomputable def asS (v:AV) (K:Nat→Nat→Prop):Prop:=AV.rec (motive_1:=fun _=>Prop) (motive_2:=fun _=>Unit)
  (fun _=>bad0) (fun _ _=>bad0) (fun l c=>K l c) bad0 (fun _ _=>bad0) bad0 (fun _ _ _ _ _=>bad0) bad0 (fun _=>bad0) (fun _ _ _ _ _=>bad0) bad0 (fun _ _ _=>bad0) bad0 (fun _ _=>bad0) (fun _ _=>bad0) bad0 () (fun _ _ _ _=>()) v
noncomputable def asP (v:AV) (K:P→Nat→Prop):Prop:=AV.rec (motive_1:=fun _=>Prop) (motive_2:=fun _=>Unit)
  (fun _=>bad0) (fun _ _=>bad0) (fun _ _=>bad0) bad0 (fun b o=>K b o) bad0 (fun _ _ _ _ _=>bad0) bad0 (fun _=>bad0) (fun _ _ _ _ _=>bad0) bad0 (fun _ _ _=>bad0) bad0 (fun _ _=>bad0) (fun _ _=>bad0) bad0 () (fun _ _ _ _=>()) v
noncomputable def asG (v:AV) (K:List AV→Prop):Prop:=AV.rec (motive_1:=fun _=>Prop) (motive_2:=fun _=>Unit)
  (fun _=>bad0) (fun _ _=>bad0) (fun _ _=>bad0) bad0 (fun _ _=>bad0) bad0 (fun _ _ _ _ _=>bad0) bad0 (fun _=>bad0) (fun _ _ _ _ _=>bad0) bad0 (fun _ _ _=>bad0) bad0 (fun cs _=>K cs) (fun _ _=>bad0) bad0 () (fun _ _ _ _=>()) v
noncomputable def asT (v:AV) (K:List AV→Prop):Prop:=AV.rec (motive_1:=fun _=>Prop) (motive_2:=fun _=>Unit)
  (fun _=>bad0) (fun _ _=>bad0) (fun _ _=>bad0) bad0 (fun _ _=>bad0) bad0 (fun _ _ _ _ _=>bad0) bad0 (fun _=>bad0) (fun _ _ _ _ _=>bad0) bad0 (fun _ _ _=>bad0) bad0 (fun _ _=>bad0) (fun cs _=>K cs) bad0 () (fun _ _ _ _=>()) v
/-- a function's value; a loop's block -/
noncomputable def asFn (v:AV) (K:Fn→List AV→List AV→Prop):Prop:=AV.rec (motive_1:=fun _=>Prop) (motive_2:=fun _=>Unit)
  (fun _=>bad0) (fun _ _=>bad0) (fun _ _=>bad0) bad0 (fun _ _=>bad0) bad0 (fun _ _ _ _ _=>bad0) bad0 (fun _=>bad0) (fun fn a c _ _=>K fn a c) bad0 (fun _ _ _=>bad0) bad0 (fun _ _=>bad0) (fun _ _=>bad0) bad0 () (fun _ _ _ _=>()) v
noncomputable def asLp (o:Ob FT) (K:(Nat→AV)→LpS→LoopState→AX→Prop):Prop:=Ob.rec bad0 (fun _ _ _ _ _=>bad0) (fun _ _=>bad0) (fun _ _=>bad0) (fun _ _ _=>bad0) (fun f s st pd=>K f s st pd) (fun _ _ _ _=>bad0) o
/-- of one cell -/
noncomputable def one (v:AV) (K:Prop):Prop:=AV.rec (motive_1:=fun _=>Prop) (motive_2:=fun _=>Unit)
  (fun _=>K) (fun _ _=>K) (fun _ _=>K) K (fun _ _=>K) K (fun _ _ _ _ _=>K) K (fun _=>K) (fun _ _ _ _ _=>K) K (fun _ _ _=>K) K (fun _ _=>bad0) (fun _ _=>bad0) bad0 () (fun _ _ _ _=>()) v
/-- a slice's length -/
noncomputable def lenV (v:AV) (K:Nat→Prop):Prop:=AV.rec (motive_1:=fun _=>Prop) (motive_2:=fun _=>Unit)
  (fun _=>bad0) (fun _ _=>bad0) (fun _ _=>bad0) bad0 (fun _ _=>bad0) (K 0) (fun _ _ n _ _=>K n) bad0 (fun _=>bad0) (fun _ _ _ _ _=>bad0) bad0 (fun _ _ _=>bad0) bad0 (fun _ _=>bad0) (fun _ _=>bad0) bad0 () (fun _ _ _ _=>()) v
/-- an element's address -/
noncomputable def elemA (sz i:Nat) (v:AV) (K:AV→Prop):Prop:=AV.rec (motive_1:=fun _=>Prop) (motive_2:=fun _=>Unit)
  (fun _=>bad0) (fun _ _=>bad0) (fun _ _=>bad0) bad0 (fun _ _=>bad0) bad0 (fun b o n z _=>Bool.rec bad0 (fN (Nat.add o (Nat.mul i sz)) (fun q=>K (.ptr b q))) (band (Nat.ble (Nat.add i 1) n) (Nat.beq sz z))) bad0 (fun _=>bad0) (fun _ _ _ _ _=>bad0) bad0 (fun _ _ _=>bad0) bad0 (fun _ _=>bad0) (fun _ _=>bad0) bad0 () (fun _ _ _ _=>()) v
end
noncomputable def fAddr (o:Nat) (v:AV) (K:AV→Prop):Prop:=asP v (fun b q=>fN (Nat.add q o) (fun q=>K (.ptr b q)))
noncomputable def ld1 (a:AV) (h:H) (K:AV→Prop):Prop:=asP a (fun b o=>h.read1K b o bad0 K)
noncomputable def ldn (n:Nat) (a:AV) (h:H) (K:AV→Prop):Prop:=asP a (fun b o=>h.readK b o n bad0 (fun l=>K (.agg l)))
noncomputable def st1 (a v:AV) (h:H) (K:H→Prop):Prop:=asP a (fun b o=>one v (h.writeK b o [v] bad0 K))
noncomputable def stn (n:Nat) (a v:AV) (h:H) (K:H→Prop):Prop:=asP a (fun b o=>asG v (fun cs=>Bool.rec bad0 (h.writeK b o cs bad0 K) (band (Nat.beq (len cs) n) (Nat.ble 1 n))))
noncomputable def fld1 (o:Nat) (v:AV) (K:AV→Prop):Prop:=asG v (fun cs=>oV (getL cs o) K)
noncomputable def fldn (o n:Nat) (v:AV) (K:AV→Prop):Prop:=asG v (fun cs=>K (.agg (takeL n (dropL o cs))))
noncomputable def ext (i:Nat) (v:AV) (K:AV→Prop):Prop:=asT v (fun cs=>oV (getL cs i) K)

/-! ### The next entry of a map: any that is left -/
noncomputable def asMI (o:Ob FT) (K:P→Nat→List Nat→Nat→Prop):Prop:=Ob.rec bad0 (fun _ _ _ _ _=>bad0) (fun _ _=>bad0) (fun _ _=>bad0) (fun _ _ _=>bad0) (fun _ _ _ _=>bad0) (fun m since seen stepped=>K m since seen stepped) o
abbrev Ent:=AV×AV×Nat
noncomputable def memN (n:Nat) (l:List Nat):Bool:=List.rec false (fun x _ ih=>Bool.rec ih true (Nat.beq x n)) l
noncomputable def leftOf (seen:List Nat) (es:List Ent):List Ent:=List.rec [] (fun e _ ih=>Bool.rec (e::ih) ih (memN e.2.2 seen)) es
noncomputable def allOld (since:Nat) (l:List Ent):Bool:=List.rec true (fun e _ ih=>Bool.rec false ih (Nat.ble (Nat.add e.2.2 1) since)) l
noncomputable def anyOld (stepped:Nat) (l:List Ent):Bool:=List.rec false (fun e _ ih=>Bool.rec ih true (Nat.ble (Nat.add e.2.2 1) stepped)) l
noncomputable def isNilB {α:Type} (l:List α):Bool:=List.rec true (fun _ _ _=>false) l
noncomputable def conjL (K:Ent→Prop) (l:List Ent):Prop:=List.rec True (fun e r ih=>List.rec (K e) (fun _ _ _=>And (K e) ih) r) l
noncomputable def nextL (b m:P) (since:Nat) (seen:List Nat) (es:List Ent) (clock:Nat) (h:H) (k:KV):Prop:=
  List.rec (k (.tuple [.bool false]) h) (fun e r _=>conjL (fun e=>h.putK b (.mIter m since (appL seen [e.2.2]) clock) (fun h=>k (.tuple [.bool true,e.1,e.2.1]) h)) (e::r)) (leftOf seen es)
noncomputable def nextM (it:AV) (h:H) (k:KV):Prop:=asP it (fun b o=>Bool.rec bad0 (asMI (h.at b) (fun m since seen stepped=>oV (esOf (h.at m)) (fun p=>Bool.rec bad0 (nextL b m since seen p.1 p.2 h k)
  (band (allOld since (leftOf seen p.1)) (Bool.rec (Bool.rec (anyOld stepped p.1) true (isNilB p.1)) true (isNilB seen)))))) (Nat.beq o 0))
/-! ### The operations -/
section
variable(E:Env)
noncomputable def eval' (o:Operand) (f:FT):AV:=eval (CP E) o f
/-- a result, as its type has it -/
noncomputable def coD (d:TypeDesc) (v:AV) (K:AV→Prop):Prop:=match d with
  |.int k=>asI k v (fun n=>K (.int k n))
  |.bool=>asB v (fun b=>K (.bool b))
  |.string=>asS v (fun l c=>K (.str l c))
  |_=>K v
noncomputable def coK (t:TypeId) (v:AV) (K:AV→Prop):Prop:=match E.ty t with
  |some ti=>coD ti.desc v K
  |none=>K v
noncomputable def bI (op:BinOp) (k:IntKind) (a b:Int) (K:AV→Prop):Prop:=match op with
  |.add=>fI (wrap k (iadd a b)) (fun n=>K (.int k n))
  |.sub=>fI (wrap k (isub a b)) (fun n=>K (.int k n))
  |.mul=>fI (wrap k (a*b)) (fun n=>K (.int k n))
  |.eql=>K (.bool (ibeq a b))
  |.neq=>K (.bool (bnot (ibeq a b)))
  |.lss=>K (.bool (iblt a b))
  |.leq=>K (.bool (ible a b))
  |.gtr=>K (.bool (iblt b a))
  |.geq=>K (.bool (ible b a))
  |.quo=>quoI k a b (fun n=>K (.int k n))
  |.rem=>remI a b (fun n=>K (.int k n))
  |.shl=>shlI k a b (fun n=>K (.int k n))
  |.shr=>shrI k a b (fun n=>K (.int k n))
  |.and=>bitI Nat.land k a b (fun n=>K (.int k n))
  |.or=>bitI Nat.lor k a b (fun n=>K (.int k n))
  |.xor=>bitI Nat.xor k a b (fun n=>K (.int k n))
  |.andNot=>False
noncomputable def bS (op:BinOp) (l c m d:Nat) (K:AV→Prop):Prop:=match op with
  |.add=>catS l c m d (fun n e=>K (.str n e))
  |.eql=>K (.bool (strEq l c m d))
  |.neq=>K (.bool (bnot (strEq l c m d)))
  |.lss=>K (.bool (ltS l c m d))
  |.geq=>K (.bool (bnot (ltS l c m d)))
  |_=>False
def isShift(op:BinOp):Bool:=match op with
  |.shl=>true
  |.shr=>true
  |_=>false
noncomputable def asI2 (op:BinOp) (k:IntKind) (y:AV) (K:Int→Prop):Prop:=match isShift op with
  |true=>asIx y K
  |false=>asI k y K
noncomputable def binD (op:BinOp) (t:TypeId) (d:TypeDesc) (x y:AV) (K:AV→Prop):Prop:=match d with
  |.int k=>asI k x (fun a=>asI2 op k y (fun b=>bI op k a b K))
  |.string=>asS x (fun l c=>asS y (fun m d=>bS op l c m d K))
  |_=>oV (binA E op t x y) K
noncomputable def bin2 (op:BinOp) (t:TypeId) (x y:AV) (K:AV→Prop):Prop:=match E.ty t with
  |some ti=>binD E op t ti.desc x y K
  |none=>False
noncomputable def bin3 (op:BinOp) (t:TypeId) (ox oy:Operand) (x y:AV) (K:AV→Prop):Prop:=Bool.rec (bin2 E op t x y K) (oV (binN E op t x y) K) (askN E op t ox oy)
noncomputable def un2 (op:UnOp) (x:AV) (K:AV→Prop):Prop:=match op with
  |.not=>asB x (fun b=>K (.bool (bnot b)))
  |op=>oV (unA op x) K
noncomputable def load2 (t:TypeId) (a:AV) (h:H) (K:AV→Prop):Prop:=match E.ty t with
  |some i=>match i.agg with
    |true=>ldn i.size a h K
    |false=>ld1 a h K
  |none=>False
noncomputable def store2 (t:TypeId) (a v:AV) (h:H) (K:H→Prop):Prop:=match E.ty t with
  |some i=>match i.agg with
    |true=>stn i.size a v h K
    |false=>match Nat.beq i.size 1 with
      |true=>st1 a v h K
      |false=>False
  |none=>False
/-- of a struct's field: where it lies, how many cells it has, and whether it is an aggregate -/
noncomputable def fldInfo (t:TypeId) (i:Nat):Option (Nat×Nat×Bool):=match E.ty t with
  |some ti=>match ti.desc with
    |.struct fs=>match fieldOff fs.toList i with
      |some p=>match E.ty p.2 with
        |some fi=>some (p.1,fi.size,fi.agg)
        |none=>none
      |none=>none
    |_=>none
  |none=>none
noncomputable def field2 (t:TypeId) (x:AV) (i:Nat) (K:AV→Prop):Prop:=match fldInfo E t i with
  |some p=>match p.2.2 with
    |true=>fldn p.1 p.2.1 x K
    |false=>fld1 p.1 x K
  |none=>False
noncomputable def fieldA2 (t:TypeId) (x:AV) (i:Nat) (K:AV→Prop):Prop:=match fldOff E t i with
  |some o=>fAddr o x K
  |none=>False
noncomputable def natV (v:AV) (K:Nat→Prop):Prop:=asIx v (fun n=>natI n K)
noncomputable def indexA2 (t:TypeId) (x i:AV) (h:H) (k:KV):Prop:=match elemOf' E t with
  |some e=>match E.ty e with
    |some ei=>natV i (fun n=>elemA ei.size n x (fun v=>k v h))
    |none=>False
  |none=>oK (exIndexAddr E t x (natOf i) h) k
noncomputable def index2 (t:TypeId) (x i:AV) (h:H) (k:KV):Prop:=match E.ty t with
  |some ti=>match isStr ti.desc with
    |true=>asS x (fun l c=>natV i (fun n=>idxS l c n (fun b=>k (.int .u8 (.ofNat b)) h)))
    |false=>oK (exIndex E t x (natOf i) h) k
  |none=>False
noncomputable def lenD2 (ats:List TypeId) (d:TypeDesc) (x:AV) (h:H) (k:KV):Prop:=match d with
  |.string=>asS x (fun l _=>k (.int .i64 (.ofNat l)) h)
  |.slice _=>lenV x (fun n=>k (.int .i64 (.ofNat n)) h)
  |_=>oK (biLen E ats x h) k
noncomputable def len2 (ats:List TypeId) (x:AV) (h:H) (k:KV):Prop:=match getL ats 0 with
  |some t=>match E.ty t with
    |some ti=>lenD2 E ats ti.desc x h k
    |none=>False
  |none=>False
noncomputable def builtin2 (b:Builtin) (ats:List TypeId) (args:List AV) (h:H) (k:KV):Prop:=match b with
  |.len=>match args with
    |[x]=>len2 E ats x h k
    |_=>False
  |b=>oK (builtinA E b ats args h) k
noncomputable def isIntTy (t:TypeId):Bool:=match E.ty t with
  |some ti=>isIntD ti.desc
  |none=>false
noncomputable def convD2 (s d:TypeId) (dd:TypeDesc) (x:AV) (h:H) (k:KV):Prop:=match dd with
  |.int kd=>match isIntTy E s with
    |true=>asIx x (fun n=>fI (wrap kd n) (fun n=>k (.int kd n) h))
    |false=>oK (convA E h s d x) k
  |_=>oK (convA E h s d x) k
noncomputable def conv2 (s d:TypeId) (x:AV) (h:H) (k:KV):Prop:=match E.ty d with
  |some ti=>convD2 E s d ti.desc x h k
  |none=>False
noncomputable def bnd2 (o:Option AV) (d:Nat) (K:Nat→Prop):Prop:=match o with
  |some v=>natV v K
  |none=>K d
noncomputable def slice3 (h:H) (t:TypeId) (x:AV) (lo hi mx:Option (Option Nat)):Option (AV×H):=Option.rec none (fun m=>withH h (sliceA E h t x lo hi m)) (maxOf mx)
noncomputable def slice2 (t:TypeId) (x:AV) (lo hi mx:Option AV) (h:H) (k:KV):Prop:=match E.ty t with
  |some ti=>match isStr ti.desc with
    |true=>match mx with
      |none=>asS x (fun l c=>bnd2 hi l (fun hi=>bnd2 lo 0 (fun lo=>cutS l c lo hi (fun n d=>k (.str n d) h))))
      |some _=>False
    |false=>oK (slice3 E h t x (lo.map natOf) (hi.map natOf) (mx.map natOf)) k
  |none=>False
noncomputable def alloc2 (e:TypeId) (h:H) (k:KV):Prop:=match E.ty e with
  |some i=>h.newK (rowOf e i.zero) (fun b h=>k (.ptr b 0) h)
  |none=>False
noncomputable def mkIface2 (t:TypeId) (x:AV) (h:H) (k:KV):Prop:=match E.ty t with
  |some ti=>match isIface ti.desc with
    |true=>False
    |false=>k (.iface t x) h
  |none=>False
noncomputable def box2 (e:TypeId) (v:AV) (h:H) (k:KV):Prop:=match E.ty e with
  |some i=>match i.agg with
    |true=>asG v (fun cs=>Bool.rec bad0 (h.newK (rowOf e cs) (fun b h=>k (.ptr b 0) h)) (Nat.ble 1 (len cs)))
    |false=>one v (h.newK (rowOf e [v]) (fun b h=>k (.ptr b 0) h))
  |none=>False
noncomputable def callee2 (call:Caller Prop FT) (fv:AV) (args:List AV) (h:H) (k:KV):Prop:=callV (CP E) call fv args h k
noncomputable def inv2 (call:Caller Prop FT) (fv:AV) (name:String) (args:List AV) (h:H) (k:KV):Prop:=callI (CP E) call fv name args h k
noncomputable def evalL (E:Env) (f:FT) (l:List Operand):List AV:=List.rec [] (fun x _ ih=>eval' E x f::ih) l
noncomputable def exec2 (o:Op) (call:Caller Prop FT) (f:FT) (h:H) (k:KV):Prop:=match o with
  |.move x=>k (eval' E x f) h
  |.assign x=>k (eval' E x f) h
  |.alloc e=>alloc2 E e h k
  |.box e x=>box2 E e (eval' E x f) h k
  |.load t a=>load2 E t (eval' E a f) h (fun v=>k v h)
  |.store t a x=>store2 E t (eval' E a f) (eval' E x f) h (fun h=>k .undef h)
  |.binOp op t x y _=>bin3 E op t x y (eval' E x f) (eval' E y f) (fun v=>k v h)
  |.unOp op _ x=>un2 op (eval' E x f) (fun v=>k v h)
  |.convert s d x=>conv2 E s d (eval' E x f) h k
  |.makeInterface t x=>mkIface2 E t (eval' E x f) h k
  |.slice t x lo hi mx=>slice2 E t (eval' E x f) (lo.map (fun x=>eval' E x f)) (hi.map (fun x=>eval' E x f)) (mx.map (fun x=>eval' E x f)) h k
  |.fieldAddr t x i=>fieldA2 E t (eval' E x f) i (fun v=>k v h)
  |.field t x i=>field2 E t (eval' E x f) i (fun v=>k v h)
  |.indexAddr t x i=>indexA2 E t (eval' E x f) (eval' E i f) h k
  |.index t x i=>index2 E t (eval' E x f) (eval' E i f) h k
  |.extract x i=>ext i (eval' E x f) (fun v=>k v h)
  |.call c=>match c.callee with
    |.builtin b=>builtin2 E b c.argTypes.toList (evalL E f c.args.toList) h k
    |.invoke r name=>inv2 E call (eval' E r f) name (evalL E f c.args.toList) h k
    |.value v=>callee2 E call (eval' E v f) (evalL E f c.args.toList) h k
  |.makeFunc fn a b=>k (.func fn (evalL E f a.toList) (evalL E f b.toList)) h
  |o=>exec o (CP E) call f h k
/-- (where the order is not drawn) -/
noncomputable def exec3 (o:Op) (call:Caller Prop FT) (f:FT) (h:H) (k:KV):Prop:=match o with
  |.next x b=>match b with
    |false=>nextM (eval' E x f) h k
    |true=>exec2 E (.next x true) call f h k
  |o=>exec2 E o call f h k
end

/-! ### Regions -/
/-- a region's operations; those that stand under a guard, with the choice behind them -/
inductive Its where
  |nil
  |op (o:Oper) (rest:Its)
  |grp (j:Nat) (gd:Tmp) (want:Bool) (body:Its) (pk:Oper) (rest:Its)
def Its.flat:Its→List Oper
  |.nil=>[]
  |.op o r=>o::r.flat
  |.grp _ _ _ b pk r=>b.flat++pk::r.flat
noncomputable def fput (f:FT) (d:Option Tmp) (v:AV):FT:=match d with
  |some d=>fset f d v
  |none=>f
noncomputable def ftop (l:List Oper) (f:FT):FT:=match l with
  |[]=>f
  |o::l=>ftop l (fput f o.dst .top)
def pickOf(o:Op):Option (Operand×Operand×Operand):=match o with
  |.pick c a b=>some (c,a,b)
  |_=>none
noncomputable def chosen (w:Bool) (x y:Operand):Operand:=Bool.rec y x w
noncomputable def grp2 (E : Env) (w : Bool) (bf : List Oper) (pk : Oper) (t : Bool) (body rest : FT → H → (FT → H → Prop) → Prop) (f : FT) (h : H) (K : FT → H → Prop) : Prop := match pickOf pk.op with
  | none => False
  | some (_, x, y) => joinB (fun kj => gate w t
        (body f h (fun f h => asB (eval' E (chosen w x y) f) (fun v => kj v h)))
        (asB (eval' E (chosen w y x) f) (fun v => kj v h)))
        (fun v h => rest (fput (ftop bf f) pk.dst (.bool v)) h K)
noncomputable def runIts (E:Env) (call:Caller Prop FT) (its:Its):FT→H→(FT→H→Prop)→Prop:=Its.rec (motive:=fun _=>FT→H→(FT→H→Prop)→Prop)
  (fun f h K=>K f h)
  (fun o _ ih f h K=>exec3 E o.op call f h (fun v h=>coK E o.type v (fun v=>ih (fput f o.dst v) h K)))
  (fun _ gd w b pk _ ihb ihr f h K=>asB (f gd) (fun t=>grp2 E w b.flat pk t ihb ihr f h K)) its
/-- the operations parted by their guards -/
def sameG(a b:Option (Nat×Bool)):Bool:=match a with
  |none=>match b with
    |none=>true
    |some _=>false
  |some (i,v)=>match b with
    |none=>false
    |some (j,w)=>and (Nat.beq i j) (beqB' v w)
where beqB' (v w:Bool):Bool:=match v with
  |true=>w
  |false=>match w with
    |true=>false
    |false=>true
/-- the guard's temporary, and whether the guard itself stands under 'g' -/
noncomputable def gdOf (ops:List Oper) (g:Option (Nat×Bool)) (j:Nat):Option Tmp:=Option.rec none (fun o=>Bool.rec none o.dst (sameG o.guard g)) (getL ops j)
abbrev Taker:=Option (Nat×Bool)→List Oper→Its×List Oper
noncomputable def takeStep (ops:List Oper) (ih:Taker):Taker:=fun g l=>List.rec (.nil,[])
  (fun o l' _=>Bool.rec
    (Option.rec (.nil,o::l') (fun p=>Option.rec (.nil,o::l') (fun gd=>
      Prod.rec (fun b r=>List.rec (.nil,o::l') (fun pk l'' _=>Prod.rec (fun q r=>(.grp p.1 gd p.2 b pk q,r)) (ih g l'')) r) (ih (some p) (o::l'))) (gdOf ops g p.1)) o.guard)
    (Prod.rec (fun q r=>(.op o q,r)) (ih g l')) (sameG o.guard g)) l
noncomputable def takeGuard (ops:List Oper) (n:Nat):Taker:=Nat.rec (motive:=fun _=>Taker) (fun _ l=>(.nil,l)) (fun _ ih=>takeStep ops ih) n
noncomputable def itsOf (ops:List Oper):Option Its:=Prod.rec (fun q r=>List.rec (some q) (fun _ _ _=>none) r) (takeGuard ops (Nat.add (Nat.mul 2 (len ops)) 2) none ops)

/-! ### Regions whose order is drawn -/
/-- are two values one? -/
noncomputable def allEq (r:AV→AV→Bool) (xs:List AV):List AV→Bool:=List.rec (motive:=fun _=>List AV→Bool) (fun ys=>List.rec true (fun _ _ _=>false) ys) (fun x _ ih ys=>List.rec false (fun y ys _=>band (r x y) (ih ys)) ys) xs
def fnEq(x y:Fn):Bool:=match x with
  |.func i=>match y with|.func j=>Nat.beq i j|_=>false
  |_=>false
noncomputable def avEqS (r:AV→AV→Bool) (x y:AV):Bool:=match x with
  |.bool a=>match y with|.bool b=>beqB a b|_=>false
  |.int k a=>match y with|.int j b=>band (ikEq k j) (ibeq a b)|_=>false
  |.str l c=>match y with|.str m d=>band (Nat.beq l m) (Nat.beq c d)|_=>false
  |.nilp=>match y with|.nilp=>true|_=>false
  |.ptr a i=>match y with|.ptr b j=>band (P.beq a b) (Nat.beq i j)|_=>false
  |.nils=>match y with|.nils=>true|_=>false
  |.slice a i n z t=>match y with|.slice b j m w u=>band (band (P.beq a b) (Nat.beq i j)) (band (band (Nat.beq n m) (Nat.beq z w)) (beqB t u))|_=>false
  |.nilm=>match y with|.nilm=>true|_=>false
  |.map a=>match y with|.map b=>P.beq a b|_=>false
  |.func f a c=>match y with|.func g b d=>band (fnEq f g) (band (allEq r a b) (allEq r c d))|_=>false
  |.nilf=>match y with|.nilf=>true|_=>false
  |.iface t v=>match y with|.iface u w=>band (Nat.beq t u) (r v w)|_=>false
  |.nili=>match y with|.nili=>true|_=>false
  |.agg xs=>match y with|.agg ys=>allEq r xs ys|_=>false
  |.tuple xs=>match y with|.tuple ys=>allEq r xs ys|_=>false
  |_=>false
noncomputable def avEq (n:Nat):AV→AV→Bool:=Nat.rec (fun _ _=>false) (fun _ ih=>avEqS ih) n
noncomputable def eqC (x y:AV) (A:Prop):Prop:=Bool.rec bad0 A (avEq 4 x y)
section
variable(E:Env)
noncomputable def isDesc (p:TypeDesc→Bool) (t:TypeId):Bool:=match E.ty t with
  |some ti=>p ti.desc
  |none=>false
def isSlD(d:TypeDesc):Bool:=match d with
  |.slice _=>true
  |_=>false
def isStrSl(d:TypeDesc):Bool:=match d with
  |.slice _=>true
  |.string=>true
  |_=>false
/-- 0: it reckons alone; 1: it looks at memory; 2: it may change memory -/
noncomputable def kindOf (o:Op):Nat:=match o with
  |.move _=>0
  |.assign _=>0
  |.binOp ..=>0
  |.unOp ..=>0
  |.fieldAddr ..=>0
  |.field ..=>0
  |.extract ..=>0
  |.makeInterface ..=>0
  |.makeFunc ..=>0
  |.index ..=>0
  |.indexAddr ..=>0
  |.nilCheck _=>0
  |.build ..=>0
  |.pick ..=>0
  |.slice t _ _ _ _=>Bool.rec 1 0 (isDesc E isStrSl t)
  |.convert s d _=>Bool.rec (Bool.rec 1 2 (isDesc E isSlD d)) 0 (band (isIntTy E s) (isIntTy E d))
  |.load ..=>1
  |.lookup ..=>1
  |.call c=>match c.callee with
    |.builtin b=>match b with
      |.len=>match c.argTypes.toList with
        |t::_=>Bool.rec 1 0 (isDesc E isStrSl t)
        |[]=>1
      |.cap=>1
      |.unsafeSliceData=>1
      |.min=>1
      |.max=>1
      |_=>2
    |_=>2
  |_=>2
/-- a region's operations in an order: which one, the operation, what is looked at again behind it; and choices behind guards -/
inductive Dr where
  |nil
  |op (i:Nat) (o:Oper) (rl:List (Nat×Oper)) (rest:Dr)
  |grp (j:Nat) (gd:Tmp) (want:Bool) (body:Dr) (ip:Nat) (pk:Oper) (rest:Dr)
abbrev Tri:=Nat×Oper×List (Nat×Oper)
noncomputable def sndL (l:List (Nat×Oper)):List Oper:=List.rec [] (fun p _ ih=>p.2::ih) l
abbrev TakerD:=Option (Nat×Bool)→List Tri→Dr×List Tri
noncomputable def takeStepD (ops:List Oper) (ih:TakerD):TakerD:=fun g l=>List.rec (.nil,[])
  (fun o l' _=>Bool.rec
    (Option.rec (.nil,o::l') (fun p=>Option.rec (.nil,o::l') (fun gd=>
      Prod.rec (fun b r=>List.rec (.nil,o::l') (fun pk l'' _=>Prod.rec (fun q r=>(.grp p.1 gd p.2 b pk.1 pk.2.1 q,r)) (ih g l'')) r) (ih (some p) (o::l'))) (gdOf ops g p.1)) o.2.1.guard)
    (Prod.rec (fun q r=>(.op o.1 o.2.1 o.2.2 q,r)) (ih g l')) (sameG o.2.1.guard g)) l
noncomputable def takeGuardD (ops:List Oper) (n:Nat):TakerD:=Nat.rec (motive:=fun _=>TakerD) (fun _ l=>(.nil,l)) (fun _ ih=>takeStepD ops ih) n
noncomputable def rlooks (call:Caller Prop FT) (rl:List Oper) (f:FT) (h:H) (A:Prop):Prop:=List.rec A (fun o _ ih=>exec2 E o.op call f h (fun v _=>coK E o.type v (fun v=>eqC v (Option.rec .undef f o.dst) ih))) rl
noncomputable def Dr.dsts (its:Dr):List (Option Tmp):=Dr.rec [] (fun _ o _ _ ih=>o.dst::ih) (fun _ _ _ _ _ pk _ ihb ihr=>appL ihb (pk.dst::ihr)) its
noncomputable def dtop (l:List (Option Tmp)) (f:FT):FT:=List.rec (motive:=fun _=>FT→FT) (fun f=>f) (fun d _ ih f=>ih (fput f d .top)) l f
noncomputable def grpD (w : Bool) (bd : List (Option Tmp)) (pk : Oper) (t : Bool) (body rest : FT → H → (FT → H → Prop) → Prop) (f : FT) (h : H) (K : FT → H → Prop) : Prop := match pickOf pk.op with
  | none => False
  | some (_, x, y) => joinB (fun kj => gate w t
        (body f h (fun f h => asB (eval' E (chosen w x y) f) (fun v => kj v h)))
        (asB (eval' E (chosen w y x) f) (fun v => kj v h)))
        (fun v h => rest (fput (dtop bd f) pk.dst (.bool v)) h K)
noncomputable def runDr (call:Caller Prop FT) (its:Dr):FT→H→(FT→H→Prop)→Prop:=Dr.rec (motive:=fun _=>FT→H→(FT→H→Prop)→Prop)
  (fun f h K=>K f h)
  (fun _ o rl _ ih f h K=>exec2 E o.op call f h (fun v h=>coK E o.type v (fun v=>rlooks E call (sndL rl) (fput f o.dst v) h (ih (fput f o.dst v) h K))))
  (fun _ gd w b _ pk _ ihb ihr f h K=>asB (f gd) (fun t=>grpD E w b.dsts pk t ihb ihr f h K)) its
end
/-- which operations stand ahead of each one, as a number's digits -/
noncomputable def maskOf (acc:List Nat) (es:List Edge):Nat:=List.rec 0 (fun e _ ih=>Bool.rec ih (Nat.lor ih (Nat.lor (Nat.shiftLeft 1 e.on) (Option.rec 0 (fun m=>m) (getL acc e.on)))) (Region.binds .any e)) es
noncomputable def ancs (l:List Oper):List Nat→List Nat:=List.rec (motive:=fun _=>List Nat→List Nat) (fun acc=>acc) (fun o _ ih acc=>ih (appL acc [maskOf acc o.after.toList])) l
def bit(m i:Nat):Bool:=Nat.beq (Nat.mod (Nat.shiftRight m i) 2) 1
/-- what is looked at again behind an operation that may change memory: what looks at memory, was done, and need not be ahead of it -/
noncomputable def rlOf (E:Env) (_ms:List Nat) (m:Nat) (g:Option (Nat×Bool)) (done:List (Nat×Oper)):List (Nat×Oper):=List.rec [] (fun p _ ih=>Bool.rec ih (p::ih) (band (Nat.beq (kindOf E p.2.op) 1) (band (Bool.rec (sameG p.2.guard g) true (sameG p.2.guard none)) (bnot (bit m p.1))))) done
/-- does it lay a new block, and nothing else? -/
def isFresh(o:Op):Bool:=match o with
  |.alloc _=>true
  |.makeMap _ r=>match r with
    |none=>true
    |some _=>false
  |.makeSlice _ _ _=>true
  |.buildSlice _ _ _=>true
  |.box _ _=>true
  |_=>false
/-- those that stand ahead and are not looked at again; behind a new block that others may go around, all are -/
noncomputable def maskF (o:Op) (ms:List Nat) (i:Nat) (pl:List Nat):Nat:=Bool.rec (Option.rec 0 (fun m=>m) (getL ms i)) (Bool.rec 0 (Option.rec 0 (fun m=>m) (getL ms i)) (List.rec true (fun j _ ih=>Bool.rec false ih (bit (Option.rec 0 (fun m=>m) (getL ms j)) i)) pl)) (isFresh o)
noncomputable def triples (E:Env) (ops:List Oper) (ms:List Nat) (pl:List Nat):List (Nat×Oper)→List Tri:=List.rec (motive:=fun _=>List (Nat×Oper)→List Tri) (fun _=>[])
  (fun i pl ih done=>Option.rec [] (fun o=>(i,o,Bool.rec [] (rlOf E ms (maskF o.op ms i pl) o.guard done) (Nat.beq (kindOf E o.op) 2))::ih (appL done [(i,o)])) (getL ops i)) pl
noncomputable def drOf (E:Env) (ops:List Oper) (pl:List Nat):Option Dr:=Prod.rec (fun q r=>List.rec (some q) (fun _ _ _=>none) r) (takeGuardD ops (Nat.add (Nat.mul 2 (len ops)) 2) none (triples E ops (ancs ops []) pl []))
abbrev Plans:=List (Nat×List Nat)
noncomputable def planAt (ps:Plans) (id:Nat):Option (List Nat):=List.rec none (fun p _ ih=>Bool.rec ih (some p.2) (Nat.beq p.1 id)) ps

/-! ### Code, cut at marked places -/
/-- a place in a body -/
inductive Pos where
  |root
  |l (p:Pos)
  |r (p:Pos)
  |lab (p:Pos) (n:Nat)
noncomputable def Pos.beq (p:Pos):Pos→Bool:=Pos.rec (motive:=fun _=>Pos→Bool)
  (fun q=>Pos.rec true (fun _ _=>false) (fun _ _=>false) (fun _ _ _=>false) q)
  (fun _ ih q=>Pos.rec false (fun q _=>ih q) (fun _ _=>false) (fun _ _ _=>false) q)
  (fun _ ih q=>Pos.rec false (fun _ _=>false) (fun q _=>ih q) (fun _ _ _=>false) q)
  (fun _ n ih q=>Pos.rec false (fun _ _=>false) (fun _ _=>false) (fun q m _=>band (Nat.beq n m) (ih q)) q) p
abbrev Cuts:=List (Pos×Nat)
noncomputable def cutAt (cs:Cuts) (p:Pos):Option Nat:=List.rec none (fun c _ ih=>Bool.rec ih (some c.2) (Pos.beq c.1 p)) cs
abbrev Jump:=Nat→FT→H→Prop
abbrev KX':=AX→FT→H→Prop
/-! ### A range over a function -/
noncomputable def setPs (ds:List Tmp):List AV→FT→FT:=List.rec (motive:=fun _=>List AV→FT→FT) (fun _ f=>f) (fun d _ ih vs f=>List.rec f (fun v vs _=>ih vs (fset f d v)) vs) ds
noncomputable def hasBody (E:Env) (fn:Fn):Bool:=match fn with
  |.func f=>match E.fn f with
    |some fn=>match fn.body with
      | some _ => !(fn.name == "runtime.NumGoroutine")
      |none=>false
    |none=>false
  |_=>false
def isReady(s:LoopState):Bool:=match s with
  |.ready=>true
  |_=>false
def notBusy(s:LoopState):Bool:=match s with
  |.busy=>false
  |_=>true
/-- how many temporaries a function that holds such loops has: told among its plans -/
noncomputable def nOf (pls:Plans):Nat:=Option.rec 0 (fun l=>List.rec 0 (fun n _ _=>n) l) (planAt pls 4294967295)
/-- what a loop's rounds read of the frame: told among its plans -/
noncomputable def readsOf (pls:Plans):List Nat:=Option.rec [] (fun l=>l) (planAt pls 4294967294)
noncomputable def frameOf (l:List Nat) (f:FT):FT:=List.rec (fun _=>.top) (fun t _ ih=>fset ih t (f t)) l
noncomputable def pFs (n:Nat):Nat→P:=Nat.rec (motive:=fun _=>Nat→P) (fun _=>.z) (fun _ ih m=>Bool.rec (Bool.rec (.r (ih (Nat.div (Nat.sub m 2) 2))) (.l (ih (Nat.div (Nat.sub m 1) 2))) (Nat.beq (Nat.mod m 2) 1)) .z (Nat.beq m 0)) n
noncomputable def endLp (l:P) (K:AX→H→Prop) (h:H):Prop:=asLp (h.at l) (fun f' s st pd=>Bool.rec bad0 (h.putK l (.loop f' s .exhausted pd) (fun h=>K pd h)) (notBusy st))
noncomputable def rangeA (E:Env) (call:Caller Prop FT) (lp:LpS) (g:AV) (f:FT) (h:H) (K:AX→H→Prop):Prop:=
  asFn g (fun fn a c=>Bool.rec bad0 (h.newK (.loop f lp .ready .normal) (fun l h=>call fn (a++[.func (.yield l.nat) [] []]++c) h (fun _ h=>endLp l K h))) (hasBody E fn))
/-- the jumps by which a loop's body may be left -/
def axEq(x y:AX):Bool:=match x with
  |.normal=>match y with|.normal=>true|_=>false
  |.exit i=>match y with|.exit j=>Nat.beq i j|_=>false
  |.goto i=>match y with|.goto j=>Nat.beq i j|_=>false
  |.ret=>match y with|.ret=>true|_=>false
noncomputable def memX (x:AX) (l:List AX):Bool:=List.rec false (fun y _ ih=>Bool.rec ih true (axEq x y)) l
noncomputable def dedX (l:List AX):List AX:=List.rec [] (fun x _ ih=>Bool.rec (x::ih) ih (memX x ih)) l
noncomputable def dropX (id:Nat) (l:List AX):List AX:=List.rec [] (fun x _ ih=>Bool.rec (x::ih) ih (axEq x (.exit id))) l
noncomputable def exitsOf (c:Code):List AX:=Code.rec (motive:=fun _=>List AX) [] (fun _ _ _=>[]) (fun _ _ x y=>appL x y) (fun _ _ _ x y=>appL x y) (fun id _ x=>dropX id x) (fun _ x=>x)
  (fun _ _ _ _ x y=>appL x y) (fun id=>[.exit id]) (fun _ x=>x) (fun _=>[]) (fun l=>[.goto l]) [.ret] (fun _=>[]) c
noncomputable def pickX (x:AX) (l:List AX) (K:AX→Prop):Prop:=List.rec False (fun y _ ih=>cnd (axEq x y) (K y) ih) l
def opsOf(c:Code):Array Oper:=match c with
  |.region _ ops _=>ops
  |_=>#[]
def idOf(c:Code):Nat:=match c with
  |.region id _ _=>id
  |_=>0
noncomputable def operAt (l:List Oper) (i:Nat):Oper:=Option.rec ⟨none,.move (.tmp 0),0,default,#[],none⟩ (fun o=>o) (getL l i)
def atsOf(o:Oper):Array TypeId:=match o.op with
  |.defer c=>c.argTypes
  |_=>#[]
theorem axEq_eq{x y:AX}(h:axEq x y=true):x=y:=by
  cases x<;>cases y<;>first|rfl|cases h|(rw[Nat.eq_of_beq_eq_true (show Nat.beq _ _=true from h)])
theorem pickX_inv{x:AX}{K:AX→Prop}:∀{l:List AX},pickX x l K→K x
  |[],h=>h.elim
  |y::l,h=>by
    have h:cnd (axEq x y) (K y) (pickX x l K):=h
    cases e:axEq x y with
    |true=>rw[e] at h;rw[axEq_eq e];exact h
    |false=>rw[e] at h;exact pickX_inv h
noncomputable def lpOf (pls:Plans) (c:Code):LpS:=match c with
  |.rangeFunc _ ps as bd=>⟨ps.toList,as,bd,pls,nOf pls⟩
  |_=>⟨[],.skip,.skip,[],0⟩
noncomputable def codeAt (c:Code) (p:Pos):Code:=Pos.rec c
  (fun _ ih=>match ih with|.seq a _=>a|.cond _ a _=>a|.block _ a=>a|.loop a=>a|.scope a=>a|_=>.skip)
  (fun _ ih=>match ih with|.seq _ b=>b|.cond _ _ b=>b|_=>.skip)
  (fun _ n ih=>match ih with|.scope a=>Option.rec .skip (fun c=>c) (findLabel a n)|_=>.skip) p
section
variable(E:Env)(call:Caller Prop FT)(pls:Plans)(cuts:Cuts)(J:Jump)
noncomputable def enter (p:Pos) (f:FT) (h:H) (A:Prop):Prop:=Option.rec A (fun L=>J L f h) (cutAt cuts p)
noncomputable def seqA (B:FT→H→KX'→Prop) (K:KX'):KX':=fun x f h=>AX.rec (B f h K) (fun id=>K (.exit id) f h) (fun l=>K (.goto l) f h) (K .ret f h) x
noncomputable def blockA (id:Nat) (K:KX'):KX':=fun x f h=>AX.rec (K .normal f h) (fun j=>Bool.rec (K (.exit j) f h) (K .normal f h) (Nat.beq j id)) (fun l=>K (.goto l) f h) (K .ret f h) x
noncomputable def loopA (B:FT→H→Prop) (K:KX'):KX':=fun x f h=>AX.rec (B f h) (fun id=>K (.exit id) f h) (fun l=>K (.goto l) f h) (K .ret f h) x
noncomputable def scopeA (c:Code) (B:Nat→FT→H→Prop) (K:KX'):KX':=fun x f h=>AX.rec (K .normal f h) (fun id=>K (.exit id) f h) (fun l=>Option.rec (K (.goto l) f h) (fun _=>B l f h) (findLabel c l)) (K .ret f h) x
/-- a region whose order is drawn -/
noncomputable def drawA (id:Nat) (ops:List Oper) (f:FT) (h:H) (K:FT→H→Prop):Prop:=oV (planAt pls id) (fun pl=>List.rec False (fun _ _ _=>oV (drOf E ops pl) (fun its=>runDr E call its f h K)) pl)
/-- (a region without a draw that stands among the plans is not gone through) -/
noncomputable def regA (id:Nat) (ops:List Oper) (d:Bool) (f:FT) (h:H) (K:FT→H→Prop):Prop:=Bool.rec (Option.rec (oV (itsOf ops) (fun its=>runIts E call its f h K)) (fun _=>False) (planAt pls id)) (drawA E call pls id ops f h K) d
abbrev RunA:=Pos→FT→H→KX'→Prop
noncomputable def sSeq (a b:RunA):RunA:=fun p f h K=>a (.l p) f h (seqA (b (.r p)) K)
noncomputable def sCond (c:Operand) (a b:RunA):RunA:=fun p f h K=>asB (eval' E c f) (fun t=>Bool.rec (b (.r p) f h K) (a (.l p) f h K) t)
noncomputable def sBlock (id:Nat) (a:RunA):RunA:=fun p f h K=>a (.l p) f h (blockA id K)
noncomputable def sLoop (a:RunA):RunA:=fun p f h K=>a (.l p) f h (loopA (fun f h=>enter cuts J p f h False) K)
noncomputable def sScope (c:Code) (a:RunA):RunA:=fun p f h K=>a (.l p) f h (scopeA c (fun l f h=>enter cuts J (.lab p l) f h False) K)
noncomputable def sReg (id:Nat) (ops:List Oper) (d:Bool):RunA:=fun _ f h K=>regA E call pls id ops d f h (fun f h=>K .normal f h)
noncomputable def sRange (g:Operand) (ps:Array Tmp) (as bd:Code):RunA:=fun _ f h K=>rangeA E call ⟨ps.toList,as,bd,pls,nOf pls⟩ (eval' E g f) (frameOf (readsOf pls) f) h (fun x h=>pickX x (.normal::dedX (exitsOf bd)) (fun y=>K y f h))
noncomputable def wrapA (a:RunA):RunA:=fun p f h K=>enter cuts J p f h (a p f h K)
noncomputable def runA (c:Code):RunA:=Code.rec (motive:=fun _=>RunA)
  (wrapA cuts J (fun _ f h K=>K .normal f h)) (fun id ops d=>wrapA cuts J (sReg E call pls id ops.toList d)) (fun _ _ a b=>wrapA cuts J (sSeq a b)) (fun c _ _ a b=>wrapA cuts J (sCond E c a b)) (fun id _ a=>wrapA cuts J (sBlock id a)) (fun _ a=>wrapA cuts J (sLoop cuts J a))
  (fun g ps as bd _ _=>wrapA cuts J (sRange E call pls g ps as bd)) (fun id=>wrapA cuts J (fun _ f h K=>K (.exit id) f h)) (fun c a=>wrapA cuts J (sScope cuts J c a)) (fun _=>wrapA cuts J (fun _ f h K=>K .normal f h)) (fun l=>wrapA cuts J (fun _ f h K=>K (.goto l) f h)) (wrapA cuts J (fun _ f h K=>K .ret f h)) (fun _=>fun _ _ _ _=>False) c
/-- the code at a place, whether marked or not -/
noncomputable def stepA (c:Code):RunA:=Code.rec (motive:=fun _=>RunA)
  (fun _ f h K=>K .normal f h) (fun id ops d=>sReg E call pls id ops.toList d) (fun a b _ _=>sSeq (runA E call pls cuts J a) (runA E call pls cuts J b)) (fun c a b _ _=>sCond E c (runA E call pls cuts J a) (runA E call pls cuts J b)) (fun id a _=>sBlock id (runA E call pls cuts J a)) (fun a _=>sLoop cuts J (runA E call pls cuts J a))
  (fun g ps as bd _ _=>sRange E call pls g ps as bd) (fun id=>fun _ f h K=>K (.exit id) f h) (fun c _=>sScope cuts J c (runA E call pls cuts J c)) (fun _=>fun _ f h K=>K .normal f h) (fun l=>fun _ f h K=>K (.goto l) f h) (fun _ f h K=>K .ret f h) (fun _=>fun _ _ _ _=>False) c
abbrev CK:=Option (Code×KX')
noncomputable def ckL (p:Pos) (c:Code) (K:KX'):CK:=Code.rec (motive:=fun _=>CK) none (fun _ _ _=>none) (fun a b _ _=>some (a,seqA (runA E call pls cuts J b (.r p)) K)) (fun _ a _ _ _=>some (a,K)) (fun id a _=>some (a,blockA id K))
  (fun a _=>some (a,loopA (fun f h=>enter cuts J p f h False) K)) (fun _ _ _ _ _ _=>none) (fun _=>none) (fun a _=>some (a,scopeA a (fun l f h=>enter cuts J (.lab p l) f h False) K)) (fun _=>none) (fun _=>none) none (fun _=>none) c
noncomputable def ckR (c:Code) (K:KX'):CK:=Code.rec (motive:=fun _=>CK) none (fun _ _ _=>none) (fun _ b _ _=>some (b,K)) (fun _ _ b _ _=>some (b,K)) (fun _ _ _=>none)
  (fun _ _=>none) (fun _ _ _ _ _ _=>none) (fun _=>none) (fun _ _=>none) (fun _=>none) (fun _=>none) none (fun _=>none) c
noncomputable def ckLab (p:Pos) (n:Nat) (c:Code) (K:KX'):CK:=Code.rec (motive:=fun _=>CK) none (fun _ _ _=>none) (fun _ _ _ _=>none) (fun _ _ _ _ _=>none) (fun _ _ _=>none)
  (fun _ _=>none) (fun _ _ _ _ _ _=>none) (fun _=>none) (fun a _=>Option.rec none (fun r=>some (r,scopeA a (fun l f h=>enter cuts J (.lab p l) f h False) K)) (findLabel a n)) (fun _=>none) (fun _=>none) none (fun _=>none) c
/-- the code at a place, and what follows it -/
noncomputable def contA (c0:Code) (K0:KX') (p:Pos):CK:=Pos.rec (some (c0,K0))
  (fun p ih=>Option.rec none (fun q=>ckL E call pls cuts J p q.1 q.2) ih) (fun _ ih=>Option.rec none (fun q=>ckR q.1 q.2) ih) (fun p n ih=>Option.rec none (fun q=>ckLab cuts J p n q.1 q.2) ih) p
noncomputable def chunkA (c0:Code) (K0:KX') (p:Pos) (f:FT) (h:H):Prop:=Option.rec False (fun q=>stepA E call pls cuts J q.1 p f h q.2) (contA E call pls cuts J c0 K0 p)
/-- a round -/
noncomputable def noJ:Jump:=fun _ _ _=>False
noncomputable def endY (l:P) (k:KV):KX':=fun x _ h=>asLp (h.at l) (fun f s _ _=>AX.rec (h.putK l (.loop f s .ready .normal) (fun h=>k (.bool true) h)) (fun id=>h.putK l (.loop f s .done (.exit id)) (fun h=>k (.bool false) h))
  (fun t=>h.putK l (.loop f s .done (.goto t)) (fun h=>k (.bool false) h)) (h.putK l (.loop f s .done .ret) (fun h=>k (.bool false) h)) x)
noncomputable def midY (l:P) (s:LpS) (k:KV):KX':=fun x f h=>AX.rec (asLp (h.at l) (fun f' s' st pd=>Bool.rec bad0 (h.putK l (.loop f' s' .busy pd) (fun h=>runA E call s.pls [] noJ s.body .root f h (endY l k))) (isReady st))) (fun _=>False) (fun _=>False) False x
noncomputable def yieldP (chk:LpS→Bool) (l:P) (args:List AV) (h:H) (k:KV):Prop:=asLp (h.at l) (fun f s _ _=>Bool.rec bad0 (runA E call s.pls [] noJ s.assign .root (setPs s.params args f) h (midY E call l s k)) (band (chk s) (Nat.beq (len args) (len s.params))))
noncomputable def yieldA (chk:LpS→Bool) (n:Nat) (args:List AV) (h:H) (k:KV):Prop:=Bool.rec bad0 (yieldP E call chk (pFs n n) args h k) (Nat.beq (P.nat (pFs n n)) n)
/-- results -/
noncomputable def resA (f:FT) (h:H) (r:ResultVar) (k:AV→Prop):Prop:=ResultVar.rec (fun t=>k (f t)) (fun a t=>load2 E t (f a) h k) r
noncomputable def ressA (f:FT) (h:H) (rs:List ResultVar):(List AV→Prop)→Prop:=List.rec (motive:=fun _=>(List AV→Prop)→Prop) (fun k=>k []) (fun r _ ih k=>resA E f h r (fun v=>ih (fun l=>k (v::l)))) rs
noncomputable def wrapR (l:List AV):AV:=List.rec (.tuple []) (fun v r _=>List.rec v (fun _ _ _=>.tuple (v::r)) r) l
noncomputable def retA (rs:List ResultVar) (k:KV):KX':=fun x f h=>AX.rec (ressA E f h rs (fun l=>k (wrapR l) h)) (fun _=>False) (fun _=>False) (ressA E f h rs (fun l=>k (wrapR l) h)) x
end
end Go.Den
/-
  What the primitives say.
-/
namespace Go.Den
open Go.RowKit

theorem fN_eq(n:Nat)(K:Nat→Prop):fN n K=K n:=rfl
theorem fI_eq(n:Int)(K:Int→Prop):fI n K=K n:=by cases n<;>rfl
theorem bad0_no:¬bad0:=fun h=>h
theorem ikEq_eq{a b:IntKind}(h:ikEq a b=true):a=b:=by cases a<;>cases b<;>first|rfl|cases h
theorem asI_inv{k:IntKind}{v:AV}{K:Int→Prop}(h:asI k v K):∃n,v=.int k n∧K n:=by
  cases v<;>try exact(bad0_no h).elim
  rename_i j n
  have h:(Bool.rec bad0 (K n) (ikEq k j):Prop):=h
  cases hk:ikEq k j with
  |false=>rw[hk] at h;exact(bad0_no h).elim
  |true=>rw[hk] at h;cases ikEq_eq hk;exact⟨n,rfl,by assumption⟩
theorem asIx_inv{v:AV}{K:Int→Prop}(h:asIx v K):∃k n,v=.int k n∧K n:=by
  cases v<;>first|exact(bad0_no h).elim|exact⟨_,_,rfl,h⟩
theorem asB_inv{v:AV}{K:Bool→Prop}(h:asB v K):∃b,v=.bool b∧K b:=by
  cases v<;>first|exact(bad0_no h).elim|exact⟨_,rfl,h⟩
theorem asS_inv{v:AV}{K:Nat→Nat→Prop}(h:asS v K):∃l c,v=.str l c∧K l c:=by
  cases v<;>first|exact(bad0_no h).elim|exact⟨_,_,rfl,h⟩
theorem asP_inv{v:AV}{K:P→Nat→Prop}(h:asP v K):∃b o,v=.ptr b o∧K b o:=by
  cases v<;>first|exact(bad0_no h).elim|exact⟨_,_,rfl,h⟩
theorem asG_inv{v:AV}{K:List AV→Prop}(h:asG v K):∃cs,v=.agg cs∧K cs:=by
  cases v<;>first|exact(bad0_no h).elim|exact⟨_,rfl,h⟩
theorem asT_inv{v:AV}{K:List AV→Prop}(h:asT v K):∃cs,v=.tuple cs∧K cs:=by
  cases v<;>first|exact(bad0_no h).elim|exact⟨_,rfl,h⟩
theorem asFn_inv{v:AV}{K:Fn→List AV→List AV→Prop}(h:asFn v K):∃fn a c,v=.func fn a c∧K fn a c:=by
  cases v<;>first|exact(bad0_no h).elim|exact⟨_,_,_,rfl,h⟩
theorem asLp_inv{o:Ob FT}{K:(Nat→AV)→LpS→LoopState→AX→Prop}(h:asLp o K):∃f s st pd,o=.loop f s st pd∧K f s st pd:=by
  cases o<;>first|exact(bad0_no h).elim|exact⟨_,_,_,_,rfl,h⟩
theorem one_inv{v:AV}{K:Prop}(h:one v K):v.one=true∧v.cells=[v]∧K:=by
  cases v<;>first|exact(bad0_no h).elim|exact⟨rfl,rfl,h⟩
theorem oV_inv{α:Type}{o:Option α}{K:α→Prop}(h:oV o K):∃v,o=some v∧K v:=by
  cases o with
  |none=>exact h.elim
  |some v=>exact⟨v,rfl,h⟩
theorem natI_inv{n:Int}{K:Nat→Prop}(h:natI n K):∃m,n=Int.ofNat m∧K m:=by
  cases n with
  |ofNat m=>exact⟨m,rfl,h⟩
  |negSucc m=>exact h.elim
theorem natV_inv{v:AV}{K:Nat→Prop}(h:natV v K):∃m,natOf v=some m∧K m:=by
  obtain⟨k,n,rfl,h⟩:=asIx_inv h
  obtain⟨m,rfl,h⟩:=natI_inv h
  exact⟨m,rfl,h⟩
theorem no_bool{c:Bool}{K:Prop}(h:(Bool.rec False K c:Prop)):c=true∧K:=by
  cases c with
  |false=>exact h.elim
  |true=>exact⟨rfl,h⟩
theorem no_bool0{c:Bool}{K:Prop}(h:(Bool.rec bad0 K c:Prop)):c=true∧K:=by
  cases c with
  |false=>exact(bad0_no h).elim
  |true=>exact⟨rfl,h⟩
theorem no_bool'{c:Bool}{K:Prop}(h:(Bool.rec K False c:Prop)):c=false∧K:=by
  cases c with
  |true=>exact h.elim
  |false=>exact⟨rfl,h⟩
theorem lenV_inv{v:AV}{K:Nat→Prop}(h:lenV v K):(v=.nils∧K 0)∨∃b o n z t,v=.slice b o n z t∧K n:=by
  cases v<;>first|exact(bad0_no h).elim|exact .inl ⟨rfl,h⟩|exact .inr ⟨_,_,_,_,_,rfl,h⟩
theorem elemA_inv{sz i:Nat}{v:AV}{K:AV→Prop}(h:elemA sz i v K):∃b o n t,v=.slice b o n sz t∧Nat.ble (Nat.add i 1) n=true∧K (.ptr b (Nat.add o (Nat.mul i sz))):=by
  cases v<;>try exact(bad0_no h).elim
  rename_i b o n z t
  obtain⟨hc,h⟩:=no_bool0 (show(Bool.rec bad0 (fN (Nat.add o (Nat.mul i sz)) (fun q=>K (.ptr b q))) (band (Nat.ble (Nat.add i 1) n) (Nat.beq sz z)):Prop) from h)
  obtain⟨h1,h2⟩:=band_inv hc
  have e:=beq_inv h2
  subst e
  exact⟨b,o,n,t,rfl,h1,by assumption⟩
theorem oK_eq(E:Env)(k:KV)(o:Option (AV×H)):oK o k=optK (CP E) k o:=rfl
theorem oK_some(k:KV)(v:AV)(h:H):oK (some (v,h)) k=k v h:=by
  obtain⟨m,n⟩:=h
  show forceV v (fun v=>forceT m (fun m=>k v ⟨m,n⟩))=_
  rw[forceV_eq,forceT_eq]
theorem oK_inv{k:KV}{o:Option (AV×H)}(h:oK o k):∃v h',o=some (v,h')∧k v h':=by
  cases o with
  |none=>exact h.elim
  |some p=>obtain⟨v,h'⟩:=p;rw[oK_some] at h;exact⟨v,h',rfl,h⟩

section
variable{E:Env}
theorem coD_inv{d:TypeDesc}{v:AV}{K:AV→Prop}(h:coD d v K):K v:=by
  unfold coD at h
  split at h
  · obtain⟨n,rfl,h2⟩:=asI_inv h;exact h2
  · obtain⟨b,rfl,h2⟩:=asB_inv h;exact h2
  · obtain⟨l,c,rfl,h2⟩:=asS_inv h;exact h2
  · exact h
theorem coK_inv{t:TypeId}{v:AV}{K:AV→Prop}(h:coK E t v K):K v:=by
  unfold coK at h
  split at h
  · exact coD_inv h
  · exact h
theorem bits2_eq{op:BinOp}{k:IntKind}{a b:Int}{g:Nat→Nat→Nat}(hg:∀x y,bits2 op k x y=some (.int k (.ofNat (g x y)))){K:AV→Prop}(h:bitI g k a b (fun n=>K (.int k n))):∃v,bitsA op k a b=some v∧K v:=by
  obtain⟨x,rfl,h⟩:=natI_inv h
  obtain⟨y,rfl,h⟩:=natI_inv h
  obtain⟨hc,h⟩:=no_bool h
  refine⟨_,?_,h⟩
  show(Bool.rec none (bits2 op k x y) (band (Nat.ble x (intMax k)) (Nat.ble y (intMax k))):Option AV)=_
  rw[hc,hg]
theorem bI_inv{op:BinOp}{k:IntKind}{a b:Int}{K:AV→Prop}(h:bI op k a b K):∃v,binInt op k a b=some v∧K v:=by
  cases op<;>simp only[bI] at h
  case add=>rw[fI_eq] at h;exact⟨_,rfl,h⟩
  case sub=>rw[fI_eq] at h;exact⟨_,rfl,h⟩
  case mul=>rw[fI_eq] at h;exact⟨_,rfl,h⟩
  case quo=>
    obtain⟨hc,h⟩:=no_bool' h
    rw[fI_eq] at h
    refine⟨_,?_,h⟩
    show idiv k a b=_
    unfold idiv;rw[hc];rfl
  case rem=>
    obtain⟨hc,h⟩:=no_bool' h
    rw[fI_eq] at h
    refine⟨_,?_,h⟩
    show irem k a b=_
    unfold irem;rw[hc]
  case and=>exact bits2_eq (fun _ _=>rfl) h
  case or=>exact bits2_eq (fun _ _=>rfl) h
  case xor=>exact bits2_eq (fun _ _=>rfl) h
  case shl=>
    obtain⟨m,rfl,h2⟩:=natI_inv h
    rw[fI_eq] at h2
    exact⟨_,rfl,h2⟩
  case shr=>
    obtain⟨m,rfl,h2⟩:=natI_inv h
    rw[fI_eq] at h2
    exact⟨_,rfl,h2⟩
  case eql=>exact⟨_,rfl,h⟩
  case neq=>exact⟨_,rfl,h⟩
  case lss=>exact⟨_,rfl,h⟩
  case leq=>exact⟨_,rfl,h⟩
  case gtr=>exact⟨_,rfl,h⟩
  case geq=>exact⟨_,rfl,h⟩
theorem bS_inv{op:BinOp}{l c m d:Nat}{K:AV→Prop}(h:bS op l c m d K):∃v,binStr op l c m d=some v∧K v:=by
  cases op<;>simp only[bS] at h
  case add=>
    obtain⟨hc,h⟩:=no_bool h
    refine⟨_,?_,h⟩
    show(Bool.rec none _ (Nat.ble (Nat.add l m) (intMax .i64)):Option AV)=_
    rw[hc]
  all_goals exact⟨_,rfl,h⟩
theorem bin2_inv{op:BinOp}{t:TypeId}{x y:AV}{K:AV→Prop}(h:bin2 E op t x y K):∃v,binA E op t x y=some v∧K v:=by
  unfold bin2 at h
  split at h
  · unfold binD at h
    split at h
    · obtain⟨a,rfl,h2⟩:=asI_inv h
      clear h
      unfold asI2 at h2
      rename_i k _
      cases hs:isShift op with
      |true=>
        rw[hs] at h2
        obtain⟨j,b,rfl,h3⟩:=asIx_inv h2
        obtain⟨v,hv,h4⟩:=bI_inv h3
        refine⟨v,?_,h4⟩
        show(Bool.rec none (binInt op k a b) (sameKind op k j):Option AV)=_
        have:sameKind op k j=true:=by cases op<;>first|rfl|cases hs
        rw[this];exact hv
      |false=>
        rw[hs] at h2
        obtain⟨b,rfl,h3⟩:=asI_inv h2
        obtain⟨v,hv,h4⟩:=bI_inv h3
        refine⟨v,?_,h4⟩
        show(Bool.rec none (binInt op k a b) (sameKind op k k):Option AV)=_
        have:sameKind op k k=true:=by cases op<;>first|rfl|exact decide_eq_true rfl
        rw[this];exact hv
    · obtain⟨l,c,rfl,h2⟩:=asS_inv h
      obtain⟨m,d,rfl,h3⟩:=asS_inv h2
      obtain⟨v,hv,h4⟩:=bS_inv h3
      exact⟨v,hv,h4⟩
    · exact oV_inv h
  · exact h.elim
theorem bin3_inv{op:BinOp}{t:TypeId}{ox oy:Operand}{x y:AV}{K:AV→Prop}(h:bin3 E op t ox oy x y K):∃v,binG E op t ox oy x y=some v∧K v:=by
  unfold bin3 at h
  unfold binG
  cases ha:askN E op t ox oy with
  |false=>rw[ha] at h;exact bin2_inv h
  |true=>
    rw[ha] at h
    have h:oV (binN E op t x y) K:=h
    show∃v,binN E op t x y=some v∧K v
    cases hb:binN E op t x y with
    |none=>rw[hb] at h;exact h.elim
    |some v=>rw[hb] at h;exact⟨v,rfl,h⟩
theorem un2_inv{op:UnOp}{x:AV}{K:AV→Prop}(h:un2 op x K):∃v,unA op x=some v∧K v:=by
  unfold un2 at h
  split at h
  · obtain⟨b,rfl,h2⟩:=asB_inv h
    refine⟨_,rfl,?_⟩
    cases b<;>exact h2
  · exact oV_inv h
end
end Go.Den
/-
  The operations' other form says no less.
-/
namespace Go.Den
open Go.RowKit

section
variable{E:Env}{call:Caller Prop FT}{f:FT}{h:H}{k:KV}
theorem optK_of{o:Option (AV×H)}{v:AV}{h':H}(e:o=some (v,h'))(hk:k v h'):optK (CP E) k o:=by
  rw[e,←oK_eq,oK_some];exact hk
theorem evalL_eq{l:List Operand}:evalL E f l=l.map fun x=>eval (CP E) x f:=by
  induction l with
  |nil=>rfl
  |cons x l ih=>show eval' E x f::evalL E f l=_;rw[ih];rfl
theorem alloc2_of{e:TypeId}(hg:alloc2 E e h k):optK (CP E) k (exAlloc e (E.ty e) h):=by
  unfold alloc2 at hg
  split at hg
  · rename_i i hi
    rw[newK_eq] at hg
    refine optK_of ?_ hg
    rw[hi];rfl
  · exact hg.elim
theorem asPtr_ptr{b:P}{o:Nat}{α:Type}{bad:α}{K:P→Nat→α}:(PtrV.rec bad K (asPtr (.ptr b o)):α)=K b o:=rfl
theorem read1K_bad{b:P}{o:Nat}{K:AV→Prop}(hg:h.read1K b o bad0 K):h.read1K b o False K:=hg
theorem load2_of{t:TypeId}{a:AV}(hg:load2 E t a h (fun v=>k v h)):(PtrV.rec False (fun b off=>Option.rec False (fun i=>ldCell (CP E) h k b off i) (E.ty t)) (asPtr a):Prop):=by
  unfold load2 at hg
  split at hg
  · rename_i i hi
    split at hg
    · rename_i ha
      obtain⟨b,o,rfl,hg⟩:=asP_inv hg
      show(Option.rec False (fun i=>ldCell (CP E) h k b o i) (E.ty t):Prop)
      rw[hi]
      show(Bool.rec _ (h.readK b o i.size False (fun l=>k (.agg l) h)) i.agg:Prop)
      rw[ha];exact hg
    · rename_i ha
      obtain⟨b,o,rfl,hg⟩:=asP_inv hg
      show(Option.rec False (fun i=>ldCell (CP E) h k b o i) (E.ty t):Prop)
      rw[hi]
      show(Bool.rec (h.read1K b o False (fun v=>k v h)) _ i.agg:Prop)
      rw[ha];exact hg
  · exact hg.elim
theorem store2_of{t:TypeId}{a v:AV}(hg:store2 E t a v h (fun h=>k .undef h)):(PtrV.rec False (fun b off=>Option.rec False (fun i=>forceV v (fun v=>stCell (CP E) h k b off v i)) (E.ty t)) (asPtr a):Prop):=by
  unfold store2 at hg
  split at hg
  · rename_i i hi
    split at hg
    · obtain⟨b,o,rfl,hg⟩:=asP_inv hg
      obtain⟨cs,rfl,hg⟩:=asG_inv hg
      obtain⟨hc,hg⟩:=no_bool0 hg
      show(Option.rec False (fun i=>forceV (.agg cs) (fun v=>stCell (CP E) h k b o v i)) (E.ty t):Prop)
      rw[hi]
      show forceV (.agg cs) (fun v=>stCell (CP E) h k b o v i)
      rw[forceV_eq]
      show(Bool.rec False (h.writeK b o cs False (fun h=>k .undef h)) (band (Nat.beq (len cs) i.size) (Nat.ble 1 i.size)):Prop)
      rw[hc];exact hg
    · split at hg
      · rename_i hs
        obtain⟨b,o,rfl,hg⟩:=asP_inv hg
        obtain⟨h1,h2,hg⟩:=one_inv hg
        show(Option.rec False (fun i=>forceV v (fun v=>stCell (CP E) h k b o v i)) (E.ty t):Prop)
        rw[hi]
        show forceV v (fun v=>stCell (CP E) h k b o v i)
        rw[forceV_eq]
        show(Bool.rec False (h.writeK b o v.cells False (fun h=>k .undef h)) (band (Nat.beq (len v.cells) i.size) (Nat.ble 1 i.size)):Prop)
        rw[h2,beq_inv hs];exact hg
      · exact hg.elim
  · exact hg.elim
theorem box2_of{e:TypeId}{v:AV}(hg:box2 E e v h k):forceV v (fun v=>(Bool.rec False (h.newK (rowOf e v.cells) (fun b h=>k (.ptr b 0) h)) (Nat.ble 1 (len v.cells)):Prop)):=by
  rw[forceV_eq]
  unfold box2 at hg
  split at hg
  · split at hg
    · obtain⟨cs,rfl,hg⟩:=asG_inv hg
      exact hg
    · obtain⟨h1,h2,hg⟩:=one_inv hg
      rw[h2];exact hg
  · exact hg.elim
theorem fieldA2_of{t:TypeId}{x:AV}{i:Nat}(hg:fieldA2 E t x i (fun v=>k v h)):(PtrV.rec False (fun b off=>Option.rec False (fun o=>k (.ptr b (Nat.add off o)) h) (fldOff E t i)) (asPtr x):Prop):=by
  unfold fieldA2 at hg
  split at hg
  · rename_i o ho
    obtain⟨b,q,rfl,hg⟩:=asP_inv hg
    show(Option.rec False (fun o=>k (.ptr b (Nat.add q o)) h) (fldOff E t i):Prop)
    rw[ho];exact hg
  · exact hg.elim
theorem field2_of{t:TypeId}{x:AV}{i:Nat}(hg:field2 E t x i (fun v=>k v h)):optK (CP E) k (exField E t x i h):=by
  unfold field2 at hg
  split at hg
  · rename_i p hp
    unfold fldInfo at hp
    split at hp<;>try cases hp
    rename_i ti hti
    split at hp<;>try cases hp
    rename_i fs hfs
    split at hp<;>try cases hp
    rename_i q hq
    split at hp<;>cases hp
    rename_i fi hfi
    have key:∀cs r,part E q.2 cs q.1=some r→exField E t (.agg cs) i h=some (r,h):=fun cs r hr=>by
      show(Option.rec none (fun ti=>match ti.desc with
        |.struct fs=>Option.rec none (fun p=>withH h (part E p.2 cs p.1)) (fieldOff fs.toList i)
        |_=>none) (E.ty t):Option (AV×H))=_
      rw[hti]
      simp only[hfs,hq]
      show withH h (part E q.2 cs q.1)=_
      rw[hr];rfl
    split at hg
    · rename_i ha
      have ha:fi.agg=true:=ha
      obtain⟨cs,rfl,hg2⟩:=asG_inv hg
      refine optK_of (key cs (.agg (takeL fi.size (dropL q.1 cs))) ?_) hg2
      show(Option.rec none (fun i=>Bool.rec (getL cs q.1) (some (.agg (takeL i.size (dropL q.1 cs)))) i.agg) (E.ty q.2):Option AV)=_
      rw[hfi]
      show(Bool.rec (getL cs q.1) (some (.agg (takeL fi.size (dropL q.1 cs)))) fi.agg:Option AV)=_
      rw[ha]
    · rename_i ha
      have ha:fi.agg=false:=ha
      obtain⟨cs,rfl,hg2⟩:=asG_inv hg
      obtain⟨v,hv,hg3⟩:=oV_inv hg2
      refine optK_of (key cs v ?_) hg3
      show(Option.rec none (fun i=>Bool.rec (getL cs q.1) (some (.agg (takeL i.size (dropL q.1 cs)))) i.agg) (E.ty q.2):Option AV)=_
      rw[hfi]
      show(Bool.rec (getL cs q.1) (some (.agg (takeL fi.size (dropL q.1 cs)))) fi.agg:Option AV)=_
      rw[ha];exact hv
  · exact hg.elim
theorem indexA2_of{t:TypeId}{x i:AV}(hg:indexA2 E t x i h k):optK (CP E) k (exIndexAddr E t x (natOf i) h):=by
  unfold indexA2 at hg
  split at hg
  · rename_i e he
    split at hg
    · rename_i ei hei
      obtain⟨m,hm,hg⟩:=natV_inv hg
      obtain⟨b,o,n,q,rfl,h1,hg⟩:=elemA_inv hg
      refine optK_of ?_ hg
      rw[hm]
      show exIdxSl E t b o n ei.size m h=_
      unfold exIdxSl withElem
      rw[he]
      show(Option.rec none (fun ti=>Bool.rec none _ _) (E.ty e):Option (AV×H))=_
      rw[hei]
      show(Bool.rec none (some (.ptr b (Nat.add o (Nat.mul m ei.size)),h)) (band (Nat.ble (Nat.add m 1) n) (Nat.beq ei.size ei.size)):Option (AV×H))=_
      rw[h1,Nat.beq_refl];rfl
    · exact hg.elim
  · exact hg
theorem index2_of{t:TypeId}{x i:AV}(hg:index2 E t x i h k):optK (CP E) k (exIndex E t x (natOf i) h):=by
  unfold index2 at hg
  split at hg
  · rename_i ti hti
    split at hg
    · rename_i hs
      obtain⟨l,c,rfl,hg⟩:=asS_inv hg
      obtain⟨m,hm,hg⟩:=natV_inv hg
      obtain⟨hc,hg⟩:=no_bool hg
      refine optK_of ?_ hg
      rw[hm]
      show(Option.rec none (fun ti=>Bool.rec none (Bool.rec none (some (.int .u8 (.ofNat (strGet c m)),h)) (Nat.ble (Nat.add m 1) l)) (isStr ti.desc)) (E.ty t):Option (AV×H))=_
      rw[hti]
      show(Bool.rec none (Bool.rec none (some (.int .u8 (.ofNat (strGet c m)),h)) (Nat.ble (Nat.add m 1) l)) (isStr ti.desc):Option (AV×H))=_
      rw[hs,hc]
    · exact hg
  · exact hg.elim
theorem ext_of{i:Nat}{x:AV}(hg:ext i x (fun v=>k v h)):optK (CP E) k (exExtract x i h):=by
  obtain⟨cs,rfl,hg⟩:=asT_inv hg
  obtain⟨v,hv,hg⟩:=oV_inv hg
  refine optK_of ?_ hg
  show withH h (getL cs i)=_
  rw[hv];rfl
theorem len2_of{ats:List TypeId}{x:AV}(hg:len2 E ats x h k):optK (CP E) k (biLen E ats x h):=by
  unfold len2 at hg
  split at hg
  · rename_i t ht
    split at hg
    · rename_i ti hti
      have e:biLen E ats x h=lenD E ti.desc x h:=by
        unfold biLen;rw[ht]
        show(Option.rec none (fun ti=>lenD E ti.desc x h) (E.ty t):Option (AV×H))=_
        rw[hti]
      unfold lenD2 at hg
      split at hg
      · rename_i hd
        obtain⟨l,c,rfl,hg2⟩:=asS_inv hg
        exact optK_of (e.trans (by rw[hd];rfl)) hg2
      · rename_i hd
        rcases lenV_inv hg with⟨rfl,hg2⟩|⟨b,o,n,z,q,rfl,hg2⟩
        · exact optK_of (e.trans (by rw[hd];rfl)) hg2
        · exact optK_of (e.trans (by rw[hd];rfl)) hg2
      · exact hg
    · exact hg.elim
  · exact hg.elim
theorem builtin2_of{b:Builtin}{ats:List TypeId}{args:List AV}(hg:builtin2 E b ats args h k):optK (CP E) k (builtinA E b ats args h):=by
  unfold builtin2 at hg
  split at hg
  · split at hg
    · exact len2_of hg
    · exact hg.elim
  · exact hg
theorem conv2_of{s d:TypeId}{x:AV}(hg:conv2 E s d x h k):optK (CP E) k (convA E h s d x):=by
  unfold conv2 at hg
  split at hg
  · rename_i ti hti
    unfold convD2 at hg
    split at hg
    · rename_i kd hd
      split at hg
      · obtain⟨j,n,rfl,hg2⟩:=asIx_inv hg
        rw[fI_eq] at hg2
        refine optK_of ?_ hg2
        unfold convA;rw[hti]
        show convD E h s ti.desc (.int j n)=_
        rw[hd];rfl
      · exact hg
    · exact hg
  · exact hg.elim
theorem bnd2_inv{o:Option AV}{d:Nat}{K:Nat→Prop}(hg:bnd2 o d K):∃n,bound d (o.map natOf)=some n∧K n:=by
  cases o with
  |none=>exact⟨d,rfl,hg⟩
  |some v=>obtain⟨m,hm,hg⟩:=natV_inv hg;exact⟨m,hm,hg⟩
theorem evalN_map{o:Option Operand}:evalN (CP E) f o=(o.map fun x=>eval' E x f).map natOf:=by cases o<;>rfl
theorem slice2_of{t:TypeId}{x:AV}{lo hi mx:Option AV}(hg:slice2 E t x lo hi mx h k):
    optK (CP E) k (Option.rec none (fun m=>withH h (sliceA E h t x (lo.map natOf) (hi.map natOf) m)) (maxOf (mx.map natOf))):=by
  unfold slice2 at hg
  split at hg
  · rename_i ti hti
    split at hg
    · rename_i hs
      split at hg
      · obtain⟨l,c,rfl,hg⟩:=asS_inv hg
        obtain⟨n,hn,hg⟩:=bnd2_inv hg
        obtain⟨m,hm,hg⟩:=bnd2_inv hg
        obtain⟨hc,hg⟩:=no_bool hg
        refine optK_of ?_ hg
        show withH h (sliceA E h t (.str l c) (lo.map natOf) (hi.map natOf) none)=_
        have hd:ti.desc=.string:=by
          cases hdd:ti.desc<;>rw[hdd] at hs<;>first|rfl|cases hs
        unfold sliceA
        rw[hti]
        show withH h (sliceD E h ti.desc (.str l c) (lo.map natOf) (hi.map natOf) none)=_
        rw[hd]
        show withH h (withBounds l (lo.map natOf) (hi.map natOf) (fun lo h=>cutStr c l lo h))=_
        unfold withBounds
        rw[hn]
        show withH h (Option.rec none (fun lo=>cutStr c l lo n) (bound 0 (lo.map natOf)))=_
        rw[hm]
        show withH h (Bool.rec none (some (.str (Nat.sub n m) (strCut c m n))) (band (Nat.ble m n) (Nat.ble n l)))=_
        rw[hc];rfl
      · exact hg.elim
    · exact hg
  · exact hg.elim
theorem mkIface2_of{t:TypeId}{x:AV}(hg:mkIface2 E t x h k):optK (CP E) k (exMkIface E t x h):=by
  unfold mkIface2 at hg
  split at hg
  · rename_i ti hti
    split at hg
    · exact hg.elim
    · rename_i hi
      refine optK_of ?_ hg
      unfold exMkIface;rw[hti]
      show(Bool.rec (some (.iface t x,h)) none (isIface ti.desc):Option (AV×H))=_
      rw[hi]
  · exact hg.elim
theorem exec2_of{o:Op}(hg:exec2 E o call f h k):exec o (CP E) call f h k:=by
  cases o
  case move x=>show forceV (eval (CP E) x f) (fun v=>k v h);rw[forceV_eq];exact hg
  case assign x=>show forceV (eval (CP E) x f) (fun v=>k v h);rw[forceV_eq];exact hg
  case alloc e=>exact alloc2_of hg
  case box e x=>exact box2_of hg
  case load t a=>exact load2_of hg
  case store t a x=>exact store2_of hg
  case binOp op t x y q=>
    obtain⟨v,hv,hg⟩:=bin3_inv (show bin3 E op t x y (eval' E x f) (eval' E y f) (fun v=>k v h) from hg)
    show(Option.rec False (fun v=>k v h) (binG E op t x y (eval (CP E) x f) (eval (CP E) y f)):Prop)
    have hv:binG E op t x y (eval (CP E) x f) (eval (CP E) y f)=some v:=hv
    rw[hv];exact hg
  case unOp op t x=>
    obtain⟨v,hv,hg⟩:=un2_inv (show un2 op (eval' E x f) (fun v=>k v h) from hg)
    show(Option.rec False (fun v=>k v h) (unA op (eval (CP E) x f)):Prop)
    have hv:unA op (eval (CP E) x f)=some v:=hv
    rw[hv];exact hg
  case convert s d x=>exact conv2_of hg
  case makeInterface t x=>exact mkIface2_of hg
  case slice t x lo hi mx=>
    have:=slice2_of (show slice2 E t (eval' E x f) (lo.map (fun x=>eval' E x f)) (hi.map (fun x=>eval' E x f)) (mx.map (fun x=>eval' E x f)) h k from hg)
    show optK (CP E) k (Option.rec none (fun m=>withH h (sliceA E h t (eval (CP E) x f) (evalN (CP E) f lo) (evalN (CP E) f hi) m)) (maxOf (evalN (CP E) f mx)))
    rw[evalN_map,evalN_map,evalN_map];exact this
  case fieldAddr t x i=>exact fieldA2_of hg
  case field t x i=>exact field2_of hg
  case indexAddr t x i=>exact indexA2_of hg
  case index t x i=>exact index2_of hg
  case extract x i=>exact ext_of hg
  case makeFunc fn a b=>
    have hg:k (.func fn (evalL E f a.toList) (evalL E f b.toList)) h:=hg
    refine Eq.mpr (evalLK_eq (C:=CP E) (f:=f) a.toList _) ?_
    refine Eq.mpr (evalLK_eq (C:=CP E) (f:=f) b.toList _) ?_
    show k (.func fn (a.toList.map fun x=>eval (CP E) x f) (b.toList.map fun x=>eval (CP E) x f)) h
    rw[show(a.toList.map fun x=>eval (CP E) x f)=evalL E f a.toList from evalL_eq.symm,show(b.toList.map fun x=>eval (CP E) x f)=evalL E f b.toList from evalL_eq.symm];exact hg
  case call c=>
    obtain⟨callee,args,ats⟩:=c
    cases callee with
    |invoke v name=>
      have hg:callI (CP E) call (eval (CP E) v f) name (evalL E f args.toList) h k:=hg
      show evalLK (CP E) f args.toList (fun l=>callI (CP E) call (eval (CP E) v f) name l h k)
      refine Eq.mpr (evalLK_eq (C:=CP E) (f:=f) args.toList _) ?_
      show callI (CP E) call (eval (CP E) v f) name (args.toList.map fun x=>eval (CP E) x f) h k
      rw[show(args.toList.map fun x=>eval (CP E) x f)=evalL E f args.toList from evalL_eq.symm];exact hg
    |builtin b=>
      have hg:builtin2 E b ats.toList (evalL E f args.toList) h k:=hg
      have:=builtin2_of hg
      show evalLK (CP E) f args.toList (fun l=>optK (CP E) k (builtinA E b ats.toList l h))
      refine Eq.mpr (evalLK_eq (C:=CP E) (f:=f) args.toList _) ?_
      show oK (builtinA E b ats.toList (args.toList.map fun x=>eval (CP E) x f) h) k
      rw[show(args.toList.map fun x=>eval (CP E) x f)=evalL E f args.toList from evalL_eq.symm];exact this
    |value v=>
      have hg:callV (CP E) call (eval (CP E) v f) (evalL E f args.toList) h k:=hg
      show evalLK (CP E) f args.toList (fun l=>callV (CP E) call (eval (CP E) v f) l h k)
      refine Eq.mpr (evalLK_eq (C:=CP E) (f:=f) args.toList _) ?_
      show callV (CP E) call (eval (CP E) v f) (args.toList.map fun x=>eval (CP E) x f) h k
      rw[show(args.toList.map fun x=>eval (CP E) x f)=evalL E f args.toList from evalL_eq.symm];exact hg
  all_goals exact hg
end
end Go.Den
/-
  The next entry of a map.
-/
namespace Go.Den
open Go.RowKit
theorem asMI_inv{o:Ob FT}{K:P→Nat→List Nat→Nat→Prop}(h:asMI o K):∃m a b c,o=.mIter m a b c∧K m a b c:=by
  cases o<;>first|exact(bad0_no h).elim|exact⟨_,_,_,_,rfl,h⟩
theorem conjL_inv{K:Ent→Prop}:∀{l:List Ent},conjL K l→∀e∈l,K e
  |[],_,e,he=>by cases he
  |[a],h,e,he=>by rw[List.mem_singleton.1 he];exact h
  |a::b::l,h,e,he=>by
    obtain⟨h1,h2⟩:=(show And (K a) (conjL K (b::l)) from h)
    rcases List.mem_cons.1 he with rfl|he
    · exact h1
    · exact conjL_inv h2 e he
theorem memN_eq(n:Nat):∀l:List Nat,memN n l=l.toArray.contains n:=by
  intro l
  have key:memN n l=true↔n∈l:=by
    induction l with
    |nil=>simp[memN]
    |cons x l ih=>
      have h:memN n (x::l)=(Bool.rec (memN n l) true (Nat.beq x n):Bool):=rfl
      rw[h,natbeq]
      by_cases e:x=n
      · rw[decide_eq_true e];simp[e]
      · rw[decide_eq_false e]
        show memN n l=true↔_
        rw[ih];simp[Ne.symm e]
  rw[Bool.eq_iff_iff,key]
  simp
theorem left_ok{μ:Mu}(seen:List Nat):∀{es:List Ent}{xs:List MapEntry},EsR μ es xs→EsR μ (leftOf seen es) (xs.filter fun e=>!seen.toArray.contains e.born)
  |[],_,h=>by cases(show _=[] from h);exact(rfl:([]:List MapEntry)=[])
  |a::es,_,⟨x,xs,e,h1,h2,h3,h4⟩=>by
    subst e
    have h:leftOf seen (a::es)=(Bool.rec (a::leftOf seen es) (leftOf seen es) (memN a.2.2 seen):List Ent):=rfl
    rw[h,memN_eq,h3,List.filter_cons]
    cases seen.toArray.contains x.born with
    |true=>exact left_ok seen h4
    |false=>exact⟨x,_,rfl,h1,h2,h3,left_ok seen h4⟩
theorem allOld_ok{μ:Mu}{since:Nat}:∀{es:List Ent}{xs:List MapEntry},EsR μ es xs→allOld since es=true→∀x∈xs,x.born<since
  |[],_,h,_,x,hx=>by cases(show _=[] from h);cases hx
  |a::es,_,⟨y,xs,e,h1,h2,h3,h4⟩,ha,x,hx=>by
    subst e
    have ha:(Bool.rec false (allOld since es) (Nat.ble (Nat.add a.2.2 1) since):Bool)=true:=ha
    cases hb:Nat.ble (Nat.add a.2.2 1) since with
    |false=>rw[hb] at ha;cases ha
    |true=>
      rw[hb] at ha
      rcases List.mem_cons.1 hx with rfl|hx
      · have:a.2.2+1≤since:=ble_inv hb
        rw[h3] at this;exact this
      · exact allOld_ok h4 ha x hx
theorem anyOld_ok{μ:Mu}{n:Nat}:∀{es:List Ent}{xs:List MapEntry},EsR μ es xs→anyOld n es=true→∃x∈xs,x.born<n
  |[],_,_,h=>by cases h
  |a::es,_,⟨y,xs,e,h1,h2,h3,h4⟩,ha=>by
    subst e
    have ha:(Bool.rec (anyOld n es) true (Nat.ble (Nat.add a.2.2 1) n):Bool)=true:=ha
    cases hb:Nat.ble (Nat.add a.2.2 1) n with
    |true=>
      have:a.2.2+1≤n:=ble_inv hb
      rw[h3] at this
      exact⟨y,by simp,this⟩
    |false=>
      rw[hb] at ha
      obtain⟨x,hx,hl⟩:=anyOld_ok h4 ha
      exact⟨x,by simp[hx],hl⟩
theorem EsR.mem{μ:Mu}:∀{es:List Ent}{xs:List MapEntry},EsR μ es xs→∀x∈xs,∃e∈es,VR μ e.1 x.key∧VR μ e.2.1 x.val∧e.2.2=x.born
  |[],_,h,x,hx=>by cases(show _=[] from h);cases hx
  |a::es,_,⟨y,xs,e,h1,h2,h3,h4⟩,x,hx=>by
    subst e
    rcases List.mem_cons.1 hx with rfl|hx
    · exact⟨a,by simp,h1,h2,h3⟩
    · obtain⟨e,he,hh⟩:=EsR.mem h4 x hx
      exact⟨e,by simp[he],hh⟩
theorem run_pickN{P:Program}{w:World}(n:Nat)(hn:0<n):∃i w',(choose (.mapNext n)).run P w=.ok i w'∧i<n∧w'.heap=w.heap∧w'.os=w.os∧w'.tape=w.tape∧w'.output=w.output:=by
  rw[run_choose]
  by_cases h:n≤1
  · exact⟨0,w,by rw[if_pos (by simpa[Question.forced] using h)],hn,rfl,rfl,rfl,rfl⟩
  · exact⟨(Question.mapNext n).cut (w.tape w.drawn (.mapNext n)),{ w with drawn:=w.drawn+1 },by rw[if_neg (by simpa[Question.forced] using h)],Nat.mod_lt _ hn,rfl,rfl,rfl,rfl⟩
theorem nextM_ok{P:Program}{μ:Mu}{h:H}{w:World}(s:Sim μ h w){it:AV}{k:KV}(hg:nextM it h k){vx:Value}{ty:TypeId}(hx:VR μ it vx):
    ∃v w' μ' av h',(Instr.next vx false ty).run P w=.ok v w'∧Sim μ' h' w'∧Ext' μ h w μ' h' w'∧VR μ' av v∧k av h':=by
  obtain⟨b,o,rfl,hg⟩:=asP_inv hg
  obtain⟨ho,hg⟩:=no_bool0 hg
  obtain rfl:=beq_inv ho
  obtain⟨m,since,seen,stepped,hat,hg⟩:=asMI_inv hg
  obtain⟨p,hp,hg⟩:=oV_inv hg
  obtain⟨hc,hg⟩:=no_bool0 hg
  obtain⟨hold,hstep⟩:=band_inv hc
  obtain⟨l,hl,rfl⟩:=hx
  have hob:=s.ob b l (by rw[hat];simp) hl
  rw[hat] at hob
  obtain⟨lm,hlm,hblk,hoff⟩:=hob
  have hatm:h.at m=.map p.1 p.2:=esOf_inv hp
  have hobm:=s.ob m lm (by rw[hatm];simp) hlm
  rw[hatm] at hobm
  obtain⟨xs,hblkm,hes⟩:=hobm
  have hleft:=left_ok seen hes
  have hall:=allOld_ok hleft hold
  have hg:(List.rec (k (.tuple [.bool false]) h) (fun e r _=>conjL (fun e=>h.putK b (.mIter m since (appL seen [e.2.2]) p.2) (fun h=>k (.tuple [.bool true,e.1,e.2.1]) h)) (e::r)) (leftOf seen p.1):Prop):=hg
  have hL:(xs.filter fun e=>!seen.toArray.contains e.born).toList=xs.toList.filter fun e=>!seen.toArray.contains e.born:=by simp
  generalize hLd:(xs.filter fun e=>!seen.toArray.contains e.born)=L at hL
  have hLold:L.filter (fun e=>decide (e.born<since))=L:=by
    rw[Array.filter_eq_self]
    intro x hx
    exact decide_eq_true (hall x (by rw[←hL];exact hx.val))
  have hLnew:L.filter (fun e=>decide (e.born≥since))=#[]:=by
    rw[Array.filter_eq_empty_iff]
    intro x hx hd
    have:=hall x (by rw[←hL];exact hx.val)
    have:=of_decide_eq_true hd
    omega
  have hcond:((!seen.toArray.isEmpty&&!xs.isEmpty&&xs.all (fun e=>decide (e.born≥stepped)))=true)→False:=by
    intro hb
    simp only[Bool.and_eq_true] at hb
    obtain⟨⟨h1,h2⟩,h3⟩:=hb
    cases hs:isNilB seen with
    |true=>
      cases seen with
      |nil=>simp at h1
      |cons=>cases hs
    |false=>
      rw[hs] at hstep
      have hstep:(Bool.rec (anyOld stepped p.1) true (isNilB p.1):Bool)=true:=hstep
      cases he:isNilB p.1 with
      |true=>
        cases hpe:p.1 with
        |nil=>
          rw[hpe] at hes
          have hes:xs.toList=[]:=hes
          rw[Array.toList_eq_nil_iff.1 hes] at h2
          simp at h2
        |cons=>rw[hpe] at he;cases he
      |false=>
        rw[he] at hstep
        obtain⟨x,hx,hlt⟩:=anyOld_ok hes hstep
        have h3:=(Array.all_eq_true_iff_forall_mem.1 h3) x (Array.mem_def.2 hx)
        have:=of_decide_eq_true h3
        omega
  have hrun0:(Instr.next (.pointer (some ⟨l.blk,l.off+0,none⟩)) false ty).run P w=(do
      match(((if L.isEmpty then #[none] else #[])++(L++#[]).map some:Array (Option MapEntry)))[←choose (.mapNext ((if L.isEmpty then #[none] else #[])++(L++#[]).map some:Array (Option MapEntry)).size)]? with
      |some (some e)=>
        setObj l.blk (.mapIter (some lm.blk) since (seen.toArray.push e.born) p.2)
        pure (.tuple #[.bool true,e.key,e.val])
      |some none=>pure (.tuple #[.bool false])
      | none => stuck "Next: no such candidate" : Sem Value).run P w := by
    unfold Instr.next
    simp only[hoff,Nat.zero_add]
    rw[run_bind_ok (run_getObj hblk (by intros;simp))]
    simp only
    rw[run_bind_ok (run_getObj hblkm (by intros;simp))]
    simp only
    rw[if_neg (fun hh=>hcond hh),hLd,hLold,hLnew]
    rfl
  rw[hrun0]
  rw[←hL] at hleft
  cases hle:leftOf seen p.1 with
  |nil=>
    rw[hle] at hg hleft
    have hnil:L=#[]:=Array.toList_eq_nil_iff.1 hleft
    obtain⟨i,w',hr,hi,h1,h2,h3,h4⟩:=run_pickN (P:=P) (w:=w) 1 (by omega)
    have hi0:i=0:=by omega
    subst hi0
    refine⟨.tuple #[.bool false],w',μ,.tuple [.bool false],h,?_,s.heap h1,Ext'.heap μ h h1 h2 h3 h4,⟨_,rfl,_,_,rfl,rfl,rfl⟩,hg⟩
    have hcand:((if L.isEmpty then #[none] else #[])++(L++#[]).map some:Array (Option MapEntry))=#[none]:=by rw[hnil];simp
    rw[hcand,show(#[none]:Array (Option MapEntry)).size=1 from rfl]
    rw[run_bind_ok hr]
    rfl
  |cons e0 r=>
    rw[hle] at hg hleft
    have hpos:0<L.size:=by
      obtain⟨x,xs',e,_⟩:=hleft
      have:L.toList.length=(x::xs').length:=by rw[e]
      simp at this;omega
    have hne:L.isEmpty=false:=by simp;intro e;rw[e] at hpos;simp at hpos
    have hcand:((if L.isEmpty then #[none] else #[])++(L++#[]).map some:Array (Option MapEntry))=L.map some:=by
      rw[hne];simp
    rw[hcand]
    obtain⟨i,w',hr,hi,h1,h2,h3,h4⟩:=run_pickN (P:=P) (w:=w) (L.map some).size (by simpa using hpos)
    have hi':i<L.size:=by simpa using hi
    obtain⟨e,he,hk1,hk2,hk3⟩:=hleft.mem L[i] (by simp)
    have hke:=conjL_inv hg e he
    have s1:=s.heap h1
    have hblk':w'.heap[l.blk]? =some (.mapIter (some lm.blk) since seen.toArray stepped):=by rw[h1];exact hblk
    obtain⟨w2,hw2,s2,x2⟩:=s1.putObj (Pr:=P) (b:=b) (by rw[hat];rfl) hl hblk' (by intros;simp) (.mapIter (some lm.blk) since (seen.toArray.push L[i].born) p.2) (.mIter m since (appL seen [e.2.2]) p.2) fun w' hw'=>⟨lm,hlm,by rw[hw',appL_eq,hk3];simp,hoff⟩
    rw[putK_eq] at hke
    refine⟨.tuple #[.bool true,L[i].key,L[i].val],w2,μ,.tuple [.bool true,e.1,e.2.1],_,?_,s2,(Ext'.heap μ h h1 h2 h3 h4).trans x2,⟨_,rfl,_,_,rfl,rfl,_,_,rfl,hk1,_,_,rfl,hk2,rfl⟩,hke⟩
    rw[run_bind_ok hr]
    have hget:(L.map some)[i]? =some (some L[i]):=by simp[hi']
    rw[hget]
    simp only
    rw[run_bind_ok hw2]
    rfl
end Go.Den
/-
  Regions without a draw, in the other form, are sound.
-/
namespace Go.Den
open Go.RowKit

theorem funI_ok:FIOk funI where
  init l t:=by
    show(Option.rec AV.undef (fun v=>v) (getL l t):AV)=_
    rw[getL_eq,List.getD_eq_getElem?_getD]
    cases l[t]?<;>rfl
  set f t v u:=by
    show(Bool.rec (f u) v (Nat.beq u t):AV)=_
    rw[natbeq]
    by_cases e:u=t
    · rw[if_pos e,decide_eq_true e]
    · rw[if_neg e,decide_eq_false e];rfl
  force f k:=rfl
theorem fset_eq(f:FT)(d:Nat)(v:AV)(u:Nat):fset f d v u=if u=d then v else f u:=funI_ok.set f d v u

theorem frameOf_get(f:FT):∀(l:List Nat)(t:Nat),frameOf l f t=.top∨frameOf l f t=f t
  |[],_=>.inl rfl
  |u::l,t=>by
    show fset (frameOf l f) u (f u) t=.top∨fset (frameOf l f) u (f u) t=f t
    rw[fset_eq]
    by_cases e:t=u
    · rw[if_pos e,e];exact .inr rfl
    · rw[if_neg e];exact frameOf_get f l t
section
variable{P:Program}{D:List Deferred}
structure FR(μ:Mu)(N:Nat)(D:List Deferred)(f:FT)(a:Act):Prop where
  size:N≤a.tmps.size
  get:∀t,VR μ (f t) (a.tmps.getD t undef)
  defs:a.defers=D
theorem FR.mono{μ μ':Mu}(h:Mu.le μ μ'){N:Nat}{f:FT}{a:Act}(r:FR μ N D f a):FR μ' N D f a:=⟨r.size,fun t=>VR.mono h _ _ (r.get t),r.defs⟩
theorem getD_set(ts:Array Value)(d t:Nat)(v:Value)(h:d<ts.size):(ts.setIfInBounds d v).getD t undef=if t=d then v else ts.getD t undef:=by
  simp only[Array.getD_eq_getD_getElem?,Array.getElem?_setIfInBounds]
  by_cases e:d=t
  · subst e;simp[h]
  · rw[if_neg e,if_neg (fun h=>e h.symm)]
def okDst(N:Nat)(d:Option Tmp):Bool:=match d with
  |none=>true
  |some d=>Nat.blt d N
theorem FR.put{μ:Mu}{N:Nat}{f:FT}{a:Act}(r:FR μ N D f a){d:Option Tmp}(hd:okDst N d=true){av:AV}{v:Value}(hv:VR μ av v):FR μ N D (fput f d av) (a.put d v):=by
  cases d with
  |none=>exact r
  |some d=>
    have hd:d<N:=by simpa[okDst] using hd
    refine⟨by simpa[Act.put] using r.size,fun t=>?_,r.defs⟩
    show VR μ (fset f d av t) ((a.tmps.setIfInBounds d v).getD t undef)
    rw[fset_eq,getD_set _ _ _ _ (Nat.lt_of_lt_of_le hd r.size)]
    by_cases e:t=d
    · rw[if_pos e,if_pos e];exact hv
    · rw[if_neg e,if_neg e];exact r.get t
theorem FR.eval{E:Env}{μ:Mu}{N G:Nat}{f:FT}{a:Act}(r:FR μ N D f a)(gl:Globs μ G){o:Operand}(ho:okOpnd G o=true):VR μ (eval' E o f) (a.eval o):=
  eval_ok (C:=CP E) gl ho fun t _=>r.get t
noncomputable def okOper (P:Program) (E:Env) (N G:Nat) (o:Oper):Bool:=okDst N o.dst&&okOp P E G o.op

def yb(o:Option Value):Option Bool:=match o with
  |some (.bool b)=>some b
  |_=>none
theorem yielded_eq(ops:Array Oper)(ts:Array Value)(j:Nat):yielded ops ts j=yb (((ops[j]?).bind (·.dst)).bind (ts[·]?)):=rfl
/-- the guards that hold -/
def Live(ops:Array Oper)(gs:List (Nat×Bool×Tmp))(a:Act):Prop:=∀g∈gs,((ops[g.1]?).bind (·.dst))=some g.2.2∧yb (a.tmps[g.2.2]?)=some g.2.1
def notIn(d:Option Tmp)(gs:List (Nat×Bool×Tmp)):Bool:=match d with
  |none=>true
  |some d=>gs.all fun g=>!Nat.beq g.2.2 d
theorem Act.put_size(a:Act)(d:Option Tmp)(v:Value):(a.put d v).tmps.size=a.tmps.size:=by cases d<;>simp[Act.put]
theorem put_get_ne{a:Act}{d:Option Tmp}{v:Value}{t:Nat}(h:d≠some t):(a.put d v).tmps[t]? =a.tmps[t]? :=by
  cases d with
  |none=>rfl
  |some d=>
    have:d≠t:=fun e=>h (by rw[e])
    simp[Act.put,Array.getElem?_setIfInBounds_ne this]
theorem notIn_ne{d:Option Tmp}{gs:List (Nat×Bool×Tmp)}(h:notIn d gs=true):∀g∈gs,d≠some g.2.2:=by
  intro g hg e
  subst e
  have:=List.all_eq_true.1 (show gs.all (fun g'=>!Nat.beq g'.2.2 g.2.2)=true from h) g hg
  simp at this
theorem Live.put{ops:Array Oper}{gs:List (Nat×Bool×Tmp)}{a:Act}(l:Live ops gs a){d:Option Tmp}(h:notIn d gs=true)(v:Value):Live ops gs (a.put d v):=fun g hg=>
  ⟨(l g hg).1,by rw[put_get_ne (notIn_ne h g hg)];exact(l g hg).2⟩
theorem sameG_eq{a b:Option (Nat×Bool)}(h:sameG a b=true):a=b:=by
  have key:∀v w,sameG.beqB' v w=true→v=w:=by intro v w;cases v<;>cases w<;>simp[sameG.beqB']
  cases a with
  |none=>cases b with
    |none=>rfl
    |some=>cases h
  |some p=>cases b with
    |none=>cases h
    |some q=>
      obtain⟨i,v⟩:=p;obtain⟨j,w⟩:=q
      have h:(Nat.beq i j&&sameG.beqB' v w)=true:=h
      rw[Bool.and_eq_true] at h
      rw[Nat.eq_of_beq_eq_true h.1,key _ _ h.2]

def isConstO(o:Operand):Bool:=match o with
  |.const _=>true
  |_=>false
def tmpIs(c:Operand)(gd:Tmp):Bool:=match c with
  |.tmp t=>Nat.beq t gd
  |_=>false
/-- a choice behind a guard's temporary -/
noncomputable def okPick (G:Nat) (gd:Tmp) (w:Bool) (o:Op):Bool:=match o with
  |.pick c x y=>tmpIs c gd&&okOpnd G x&&okOpnd G y&&isConstO (chosen w y x)
  |_=>false
def hasT(t:Tmp)(l:List (Option Tmp)):Bool:=l.any fun d=>match d with
  |some d=>Nat.beq d t
  |none=>false
noncomputable def okIts (P:Program) (E:Env) (N G:Nat) (ops:List Oper) (its:Its):Option (Nat×Bool)→List (Nat×Bool×Tmp)→List (Option Tmp)→Bool:=Its.rec (motive:=fun _=>Option (Nat×Bool)→List (Nat×Bool×Tmp)→List (Option Tmp)→Bool)
  (fun _ _ _=>true)
  (fun o _ ih g gs prev=>and (and (okOper P E N G o) (and (sameG o.guard g) (notIn o.dst gs))) (ih g gs (o.dst::prev)))
  (fun j gd w _ pk _ ihb ihr g gs prev=>and (and (and (okDst N pk.dst) (and (sameG pk.guard g) (notIn pk.dst gs))) (and (okPick G gd w pk.op) (and (hasT gd prev) (Option.rec false (fun o=>Option.rec false (fun d=>Nat.beq d gd) o.dst) (getL ops j)))))
    (and (ihb (some (j,w)) ((j,w,gd)::gs) []) (ihr g gs (pk.dst::prev)))) its

/-- what an operation that is not done leaves -/
def putAll(l:List Oper)(a:Act):Act:=l.foldl (fun a o=>a.put o.dst undef) a
theorem putAll_cons(o:Oper)(l:List Oper)(a:Act):putAll (o::l) a=putAll l (a.put o.dst undef):=rfl
theorem putAll_append(l m:List Oper)(a:Act):putAll (l++m) a=putAll m (putAll l a):=List.foldl_append ..
theorem putAll_size(l:List Oper):∀a:Act,(putAll l a).tmps.size=a.tmps.size:=by
  induction l with
  |nil=>intro a;rfl
  |cons o l ih=>intro a;rw[putAll_cons,ih,Act.put_size]
theorem putAll_defers(l:List Oper):∀a:Act,(putAll l a).defers=a.defers:=by
  induction l with
  |nil=>intro a;rfl
  |cons o l ih=>intro a;rw[putAll_cons,ih];cases o.dst<;>rfl
theorem putAll_ne{l:List Oper}{t:Nat}:∀{a:Act},(∀o∈l,o.dst≠some t)→(putAll l a).tmps[t]? =a.tmps[t]? :=by
  induction l with
  |nil=>intro a _;rfl
  |cons o l ih=>intro a h;rw[putAll_cons,ih (fun x hx=>h x (by simp[hx])),put_get_ne (h o (by simp))]
theorem put_undef{a:Act}{d:Option Tmp}{t:Nat}(h:a.tmps[t]? =some undef):(a.put d undef).tmps[t]? =some undef:=by
  cases d with
  |none=>exact h
  |some d=>
    by_cases e:d=t
    · subst e
      have:d<a.tmps.size:=(Array.getElem?_eq_some_iff.1 h).1
      simp[Act.put,this]
    · rw[put_get_ne (by simpa using e)];exact h
theorem putAll_undef{l:List Oper}{t:Nat}:∀{a:Act},a.tmps[t]? =some undef→(putAll l a).tmps[t]? =some undef:=by
  induction l with
  |nil=>intro a h;exact h
  |cons o l ih=>intro a h;rw[putAll_cons];exact ih (put_undef h)
theorem put_same{a:Act}{d:Tmp}{v:Value}(h:d<a.tmps.size):(a.put (some d) v).tmps[d]? =some v:=by simp[Act.put,h]

variable{E:Env}{N G:Nat}{ops:Array Oper}{Q:Exit→Act→World→Prop}
theorem okIts_dsts:∀{its:Its}{g:Option (Nat×Bool)}{gs:List (Nat×Bool×Tmp)}{prev:List (Option Tmp)},okIts P E N G ops.toList its g gs prev=true→∀o∈its.flat,okDst N o.dst=true∧∀x∈gs,o.dst≠some x.2.2
  |.nil,_,_,_,_,o,ho=>by simp[Its.flat] at ho
  |.op o r,g,gs,prev,h,x,hx=>by
    have h:(((okOper P E N G o)&&(sameG o.guard g&&notIn o.dst gs))&&okIts P E N G ops.toList r g gs (o.dst::prev))=true:=h
    simp only[Bool.and_eq_true] at h
    rcases List.mem_cons.1 (show x∈o::r.flat from hx) with rfl|hx
    · refine⟨?_,notIn_ne h.1.2.2⟩
      have:=h.1.1
      simp only[okOper,Bool.and_eq_true] at this
      exact this.1
    · exact okIts_dsts h.2 x hx
  |.grp j gd w b pk r,g,gs,prev,h,x,hx=>by
    have h:(((okDst N pk.dst)&&(sameG pk.guard g&&notIn pk.dst gs))&&(okPick G gd w pk.op&&(hasT gd prev&&_))&&(okIts P E N G ops.toList b (some (j,w)) ((j,w,gd)::gs) []&&okIts P E N G ops.toList r g gs (pk.dst::prev)))=true:=h
    simp only[Bool.and_eq_true] at h
    rcases List.mem_append.1 (show x∈b.flat++pk::r.flat from hx) with hx|hx
    · have:=okIts_dsts h.2.1 x hx
      exact⟨this.1,fun y hy=>this.2 y (by simp[hy])⟩
    · rcases List.mem_cons.1 hx with rfl|hx
      · exact⟨h.1.1.1,notIn_ne h.1.1.2.2⟩
      · exact okIts_dsts h.2.2 x hx
theorem hasT_mem{t:Tmp}{l:List (Option Tmp)}(h:hasT t l=true):some t∈l:=by
  obtain⟨d,hd,h⟩:=List.any_eq_true.1 h
  cases d with
  |none=>cases h
  |some d=>rw[Nat.eq_of_beq_eq_true h] at hd;exact hd

/-- under a guard that does not hold nothing is done -/
theorem dead_ok {ro : Option Nat} : ∀ {its : Its} {j : Nat} {w : Bool} {gd : Tmp} {gs : List (Nat × Bool × Tmp)} {prev : List (Option Tmp)} {rest : List Oper} {a : Act} {wd : World}, okIts P E N G ops.toList its (some (j, w)) ((j, w, gd) :: gs) prev = true → N ≤ a.tmps.size →
    ((ops[j]?).bind (·.dst)) = some gd → yb (a.tmps[gd]?) ≠ some w → (∀ t, some t ∈ prev → a.tmps[t]? = some undef) → wpListIn (Fo ro) 0 P ops Q rest (putAll its.flat a) wd → wpListIn (Fo ro) 0 P ops Q (its.flat ++ rest) a wd
  | .nil, _, _, _, _, _, _, _, _, _, _, _, _, _, hr => hr
  | .op o r, j, w, gd, gs, prev, rest, a, wd, h, hN, hj, hy, hp, hr => by
    have h : (((okOper P E N G o) && (sameG o.guard (some (j, w)) && notIn o.dst ((j, w, gd) :: gs))) && okIts P E N G ops.toList r (some (j, w)) ((j, w, gd) :: gs) (o.dst :: prev)) = true := h
    simp only [Bool.and_eq_true] at h
    have hwant : Region.wanted o (yielded ops a.tmps) = false := by
      unfold Region.wanted
      rw [sameG_eq h.1.2.1]
      show (yielded ops a.tmps j == some w) = false
      rw [yielded_eq, hj]
      simpa using hy
    show wpListIn (Fo ro) 0 P ops Q (o :: (r.flat ++ rest)) a wd
    unfold wpListIn
    rw [hwant, if_neg (by simp)]
    refine ⟨fun _ _ => trivial, ?_⟩
    have hne := notIn_ne h.1.2.2 (j, w, gd) (by simp)
    refine dead_ok h.2 (by rw [Act.put_size]; exact hN) hj (by rw [put_get_ne hne]; exact hy) ?_ hr
    intro t ht
    rcases List.mem_cons.1 ht with e | ht
    · rw [← e]
      refine put_same (Nat.lt_of_lt_of_le ?_ hN)
      have := h.1.1
      simp only [okOper, Bool.and_eq_true] at this
      rw [← e] at this
      simpa [okDst] using this.1
    · exact put_undef (hp t ht)
  | .grp j' gd' w' b pk r, j, w, gd, gs, prev, rest, a, wd, h, hN, hj, hy, hp, hr => by
    have h : (((okDst N pk.dst) && (sameG pk.guard (some (j, w)) && notIn pk.dst ((j, w, gd) :: gs))) && (okPick G gd' w' pk.op && (hasT gd' prev && (Option.rec false (fun o => Option.rec false (fun d => Nat.beq d gd') o.dst) (getL ops.toList j'))))
      && (okIts P E N G ops.toList b (some (j', w')) ((j', w', gd') :: (j, w, gd) :: gs) [] && okIts P E N G ops.toList r (some (j, w)) ((j, w, gd) :: gs) (pk.dst :: prev))) = true := h
    simp only [Bool.and_eq_true] at h
    obtain ⟨⟨⟨hd, hg, hn⟩, hpk, ht, hjd⟩, hb, hrr⟩ := h
    have hj' : ((ops[j']?).bind (·.dst)) = some gd' := by
      rw [getL_eq, Array.getElem?_toList] at hjd
      cases ho : ops[j']? with
      | none => rw [ho] at hjd; cases hjd
      | some o =>
        rw [ho] at hjd
        have hjd : (Option.rec false (fun d => Nat.beq d gd') o.dst : Bool) = true := hjd
        show o.dst = some gd'
        cases hod : o.dst with
        | none => rw [hod] at hjd; cases hjd
        | some d => rw [hod] at hjd; rw [Nat.eq_of_beq_eq_true hjd]
    have hu := hp gd' (hasT_mem ht)
    show wpListIn (Fo ro) 0 P ops Q ((b.flat ++ pk :: r.flat) ++ rest) a wd
    rw [List.append_assoc]
    refine dead_ok hb hN hj' (by rw [hu]; simp [yb, undef]) (by simp) ?_
    have hbd := okIts_dsts hb
    have hgd : (putAll b.flat a).tmps[gd]? = a.tmps[gd]? := putAll_ne fun o ho => (hbd o ho).2 (j, w, gd) (by simp)
    have hwant : Region.wanted pk (yielded ops (putAll b.flat a).tmps) = false := by
      unfold Region.wanted
      rw [sameG_eq hg]
      show (yielded ops (putAll b.flat a).tmps j == some w) = false
      rw [yielded_eq, hj]
      show (yb ((putAll b.flat a).tmps[gd]?) == some w) = false
      rw [hgd]
      simpa using hy
    show wpListIn (Fo ro) 0 P ops Q (pk :: (r.flat ++ rest)) _ wd
    unfold wpListIn
    rw [hwant, if_neg (by simp)]
    refine ⟨fun _ _ => trivial, ?_⟩
    have hne := notIn_ne hn (j, w, gd) (by simp)
    refine dead_ok hrr (by rw [Act.put_size, putAll_size]; exact hN) hj (by rw [put_get_ne hne, hgd]; exact hy) ?_ ?_
    · intro t ht
      rcases List.mem_cons.1 ht with e | ht
      · rw [← e]
        refine put_same (Nat.lt_of_lt_of_le ?_ (by rw [putAll_size]; exact hN))
        rw [← e] at hd
        simpa [okDst] using hd
      · exact put_undef (putAll_undef (hp t ht))
    · have : putAll (Its.grp j' gd' w' b pk r).flat a = putAll r.flat ((putAll b.flat a).put pk.dst undef) := by
        show putAll (b.flat ++ pk :: r.flat) a = _
        rw [putAll_append, putAll_cons]
      rw [← this]; exact hr
end
end Go.Den
/-
  Regions without a draw, in the other form, are sound: where the guards hold.
-/
namespace Go.Den
open Go.RowKit

section
variable{P:Program}{E:Env}{N G:Nat}{D:List Deferred}{ops:Array Oper}{Q:Exit→Act→World→Prop}
def SameBut(l:List Oper)(a a':Act):Prop:=a'.tmps.size=a.tmps.size∧∀t,(∀o∈l,o.dst≠some t)→a'.tmps[t]? =a.tmps[t]?
theorem SameBut.refl(l:List Oper)(a:Act):SameBut l a a:=⟨rfl,fun _ _=>rfl⟩
theorem SameBut.cons{o:Oper}{l:List Oper}{a a':Act}{v:Value}(h:SameBut l (a.put o.dst v) a'):SameBut (o::l) a a':=
  ⟨h.1.trans (Act.put_size _ _ _),fun t ht=>(h.2 t fun x hx=>ht x (by simp[hx])).trans (put_get_ne (ht o (by simp)))⟩
theorem SameBut.append{l m:List Oper}{a a' b:Act}(h:SameBut l a a')(k:SameBut m a' b):SameBut (l++m) a b:=
  ⟨k.1.trans h.1,fun t ht=>(k.2 t fun x hx=>ht x (by simp[hx])).trans (h.2 t fun x hx=>ht x (by simp[hx]))⟩
theorem SameBut.putAll(l:List Oper)(a:Act):SameBut l a (putAll l a):=⟨putAll_size l a,fun _ ht=>putAll_ne ht⟩
theorem ftop_get (l : List Oper) : ∀ (f : FT) (t : Nat), ftop l f t = .top ∨ (ftop l f t = f t ∧ ∀ o ∈ l, o.dst ≠ some t) := by
  induction l with
  | nil => intro f t; exact .inr ⟨rfl, by simp⟩
  | cons o l ih =>
    intro f t
    show ftop l (fput f o.dst .top) t = .top ∨ (ftop l (fput f o.dst .top) t = f t ∧ _)
    rcases ih (fput f o.dst .top) t with h | ⟨h, hl⟩
    · exact .inl h
    · rw [h]
      cases hd : o.dst with
      | none => exact .inr ⟨rfl, by intro x hx; rcases List.mem_cons.1 hx with rfl | hx; · rw [hd]; simp
                                    · exact hl x hx⟩
      | some d =>
        show fset f d .top t = .top ∨ _
        rw [fset_eq]
        by_cases e : t = d
        · left; rw [if_pos e]
        · right
          refine ⟨by rw [show fput f (some d) AV.top t = fset f d .top t from rfl, fset_eq, if_neg e], ?_⟩
          intro x hx
          rcases List.mem_cons.1 hx with rfl | hx
          · rw [hd]; simpa using fun h => e h.symm
          · exact hl x hx
theorem FR.top{μ:Mu}{f:FT}{a a':Act}{l:List Oper}(r:FR μ N D f a)(s:SameBut l a a')(hd:a'.defers=D):FR μ N D (ftop l f) a':=by
  refine⟨by rw[s.1];exact r.size,fun t=>?_,hd⟩
  rcases ftop_get l f t with h|⟨h,hl⟩
  · rw[h];trivial
  · rw[h]
    have:=r.get t
    rw[Array.getD_eq_getD_getElem?] at this ⊢
    rw[s.2 t hl];exact this
def headG(gs:List (Nat×Bool×Tmp)):Option (Nat×Bool):=match gs with
  |[]=>none
  |g::_=>some (g.1,g.2.1)
theorem wanted_live{o:Oper}{gs:List (Nat×Bool×Tmp)}{a:Act}(hg:o.guard=headG gs)(l:Live ops gs a):Region.wanted o (yielded ops a.tmps)=true:=by
  unfold Region.wanted
  rw[hg]
  cases gs with
  |nil=>rfl
  |cons g gs=>
    obtain⟨h1,h2⟩:=l g (by simp)
    show(yielded ops a.tmps g.1==some g.2.1)=true
    rw[yielded_eq,h1]
    show(yb (a.tmps[g.2.2]?)==some g.2.1)=true
    rw[h2];simp
/-- the choice, in the model -/
theorem pick_wp{ro:Option Nat}{pk:Oper}{c x y:Operand}(hpk:pk.op=.pick c x y){a:Act}{w:World}{t:Bool}(hc:a.eval c=.bool t){next:Act→World→Prop}(h:next (a.put pk.dst (a.eval (chosen t x y))) w):pk.wpIn (Fo ro) 0 P a w next Q:=by
  have:(execOp a.eval pk).run P w=.ok (.value (a.eval (chosen t x y))) w:=by
    unfold execOp
    rw[hpk]
    simp only[hc]
    cases t<;>rfl
  refine wpIn_of (fun c e=>by rw[hpk] at e;cases e) ?_
  rw[this]
  exact h
theorem okPick_inv{gd:Tmp}{w:Bool}{o:Op}(h:okPick G gd w o=true):∃x y v,o=.pick (.tmp gd) x y∧okOpnd G x=true∧okOpnd G y=true∧chosen w y x=.const v:=by
  cases o<;>try cases h
  rename_i c x y
  have h:(tmpIs c gd&&okOpnd G x&&okOpnd G y&&isConstO (chosen w y x))=true:=h
  simp only[Bool.and_eq_true] at h
  obtain⟨⟨⟨h1,h2⟩,h3⟩,h4⟩:=h
  cases c<;>try cases h1
  rename_i t
  have e:=Nat.eq_of_beq_eq_true h1
  subst e
  cases hq:chosen w y x<;>rw[hq] at h4<;>first|exact⟨x,y,_,rfl,by assumption,by assumption,hq⟩|cases h4
theorem okOpnd_chosen{w:Bool}{x y:Operand}(hx:okOpnd G x=true)(hy:okOpnd G y=true):okOpnd G (chosen w x y)=true:=by cases w<;>assumption
theorem Live.same{gs:List (Nat×Bool×Tmp)}{a a':Act}{l:List Oper}(h:Live ops gs a)(s:SameBut l a a')(hl:∀o∈l,∀g∈gs,o.dst≠some g.2.2):Live ops gs a':=fun g hg=>
  ⟨(h g hg).1,by rw[s.2 g.2.2 fun o ho=>hl o ho g hg];exact(h g hg).2⟩
def EndI(_P:Program)(N:Nat)(D:List Deferred)(ops:Array Oper)(gs:List (Nat×Bool×Tmp))(its:Its)(μ:Mu)(h:H)(a:Act)(w:World)(K:FT→H→Prop)(q:Act→World→Prop):Prop:=
  ∀(μ':Mu)(f':FT)(h':H)(a':Act)(w':World),FR μ' N D f' a'→Sim μ' h' w'→Ext' μ h w μ' h' w'→Live ops gs a'→SameBut its.flat a a'→K f' h'→q a' w'
theorem exec3_wp{ro:Option Nat}(ok:EnvOk P E){call:Caller Prop FT}(hcall:CallOk P (CP E) G (fun p=>p) call){o:Oper}(hop:okOp P E G o.op=true){μ:Mu}{f:FT}{h:H}{a:Act}{w:World}{k:KV}{next:Act→World→Prop}{Q:Exit→Act→World→Prop}
    (hv:∀x∈o.op.operands.toList,VR μ (eval (CP E) x f) (a.eval x)) (s:Sim μ h w) (gl:Globs μ G) (hg:exec3 E o.op call f h k) (g:Goes (CP E) μ h w (fun p=>p) k a o.dst next):o.wpIn (Fo ro) 0 P a w next Q:=by
  by_cases hnx:∃x,o.op=.next x false
  · obtain⟨x,e⟩:=hnx
    rw[e] at hg
    obtain⟨v,w',μ',av,h',hr,s',x',hv',hk⟩:=nextM_ok (P:=P) (ty:=o.type) s (show nextM (eval' E x f) h k from hg) (hv x (by rw[e];simp[Op.operands]))
    refine wpIn_of (fun c hc=>by rw[e] at hc;cases hc) ?_
    have he:execOp a.eval o=(do pure (.value (←Instr.next (a.eval x) false o.type))):=by
      obtain⟨dst,op,type,pos,after,guard⟩:=o
      cases e;rfl
    rw[he,run_bind_ok hr]
    exact g _ _ _ _ _ s' x' hv' hk
  · have hg2:exec2 E o.op call f h k:=by
      cases ho:o.op<;>rw[ho] at hg<;>try exact hg
      rename_i x b
      cases b with
      |true=>exact hg
      |false=>exact absurd ⟨x,ho⟩ hnx
    exact exec_wp (C:=CP E) (good:=fun p=>p) (fun h=>h) ok hcall hop hv s gl (exec2_of hg2) g
theorem its_ok {ro : Option Nat} (ok : EnvOk P E) {call : Caller Prop FT} (hcall : CallOk P (CP E) G (fun p => p) call) : ∀ (its : Its) {gs : List (Nat × Bool × Tmp)} {prev : List (Option Tmp)}, okIts P E N G ops.toList its (headG gs) gs prev = true →
    ∀ {μ : Mu} {f : FT} {h : H} {a : Act} {w : World} {K : FT → H → Prop} {rest : List Oper}, FR μ N D f a → Sim μ h w → Globs μ G → Live ops gs a → runIts E call its f h K → EndI P N D ops gs its μ h a w K (wpListIn (Fo ro) 0 P ops Q rest) → wpListIn (Fo ro) 0 P ops Q (its.flat ++ rest) a w
  | .nil, gs, prev, _, μ, f, h, a, w, K, rest, fr, s, _, l, hr, he => he μ f h a w fr s (.refl _ _ _) l (.refl _ _) hr
  | .op o r, gs, prev, hk, μ, f, h, a, w, K, rest, fr, s, gl, l, hr, he => by
    have hk : (((okOper P E N G o) && (sameG o.guard (headG gs) && notIn o.dst gs)) && okIts P E N G ops.toList r (headG gs) gs (o.dst :: prev)) = true := hk
    simp only [Bool.and_eq_true, okOper] at hk
    obtain ⟨⟨⟨hd, hop⟩, hg, hn⟩, hrr⟩ := hk
    have hr : exec3 E o.op call f h (fun v h => coK E o.type v (fun v => runIts E call r (fput f o.dst v) h K)) := hr
    have hopn : ∀ x ∈ o.op.operands.toList, okOpnd G x = true := by
      have hop := hop
      simp only [okOp, Bool.and_eq_true] at hop
      exact fun x hx => (List.all_eq_true.1 hop.1) x hx
    show wpListIn (Fo ro) 0 P ops Q (o :: (r.flat ++ rest)) a w
    unfold wpListIn
    rw [wanted_live (sameG_eq hg) l, if_pos rfl]
    refine exec3_wp ok hcall hop (fun x hx => fr.eval gl (hopn x hx)) s gl hr ?_
    intro μ' av h' v w' s' x' hv hg'
    refine its_ok ok hcall r hrr ((fr.mono x'.le).put hd hv) s' (gl.mono x'.le) (l.put hn v) (coK_inv hg') ?_
    intro μ'' f'' h'' a'' w'' fr'' s'' x'' l'' sb hK
    exact he _ _ _ _ _ fr'' s'' (x'.trans x'') l'' (SameBut.cons sb) hK
  | .grp j gd wt b pk r, gs, prev, hk, μ, f, h, a, w, K, rest, fr, s, gl, l, hr, he => by
    have hk : (((okDst N pk.dst) && (sameG pk.guard (headG gs) && notIn pk.dst gs)) && (okPick G gd wt pk.op && (hasT gd prev && (Option.rec false (fun o => Option.rec false (fun d => Nat.beq d gd) o.dst) (getL ops.toList j))))
      && (okIts P E N G ops.toList b (some (j, wt)) ((j, wt, gd) :: gs) [] && okIts P E N G ops.toList r (headG gs) gs (pk.dst :: prev))) = true := hk
    simp only [Bool.and_eq_true] at hk
    obtain ⟨⟨⟨hd, hg, hn⟩, hpk, _, hjd⟩, hb, hrr⟩ := hk
    have hj : ((ops[j]?).bind (·.dst)) = some gd := by
      rw [getL_eq, Array.getElem?_toList] at hjd
      cases ho : ops[j]? with
      | none => rw [ho] at hjd; cases hjd
      | some o =>
        rw [ho] at hjd
        have hjd : (Option.rec false (fun d => Nat.beq d gd) o.dst : Bool) = true := hjd
        show o.dst = some gd
        cases hod : o.dst with
        | none => rw [hod] at hjd; cases hjd
        | some d => rw [hod] at hjd; rw [Nat.eq_of_beq_eq_true hjd]
    obtain ⟨x, y, cv, epk, hx, hy, hcv⟩ := okPick_inv hpk
    obtain ⟨t, hft, hr⟩ := asB_inv (show asB (f gd) (fun t => grp2 E wt b.flat pk t (runIts E call b) (runIts E call r) f h K) from hr)
    have hvt : a.tmps.getD gd undef = .bool t := by have := fr.get gd; rw [hft] at this; exact this
    have hgt : a.tmps[gd]? = some (.bool t) := by
      rw [Array.getD_eq_getD_getElem?] at hvt
      cases hq : a.tmps[gd]? with
      | none => rw [hq] at hvt; cases hvt
      | some v => rw [hq] at hvt; exact congrArg some hvt
    have hr : joinB (fun kj => gate wt t (runIts E call b f h (fun f h => asB (eval' E (chosen wt x y) f) (fun v => kj v h))) (asB (eval' E (chosen wt y x) f) (fun v => kj v h)))
        (fun v h => runIts E call r (fput (ftop b.flat f) pk.dst (.bool v)) h K) := by
      unfold grp2 at hr
      rw [epk] at hr
      exact hr
    have hbd := okIts_dsts hb
    show wpListIn (Fo ro) 0 P ops Q ((b.flat ++ pk :: r.flat) ++ rest) a w
    rw [List.append_assoc]
    by_cases hw : t = wt
    · subst hw
      have hr : runIts E call b f h (fun f' h' => asB (eval' E (chosen t x y) f') (fun v => runIts E call r (fput (ftop b.flat f) pk.dst (.bool v)) h' K)) := by cases t <;> exact hr
      refine its_ok ok hcall b (gs := (j, t, gd) :: gs) hb fr s gl ?_ hr ?_
      · intro g hg'
        rcases List.mem_cons.1 hg' with rfl | hg'
        · exact ⟨hj, by show yb (a.tmps[gd]?) = some t; rw [hgt]; rfl⟩
        · exact l g hg'
      · intro μ' f' h' a' w' fr' s' x' l' sb hK
        obtain ⟨v, hv, hK⟩ := asB_inv hK
        have lo : Live ops gs a' := fun g hg' => l' g (by simp [hg'])
        show wpListIn (Fo ro) 0 P ops Q (pk :: (r.flat ++ rest)) a' w'
        unfold wpListIn
        rw [wanted_live (sameG_eq hg) lo, if_pos rfl]
        have hc : a'.eval (.tmp gd) = .bool t := by
          have := (l' (j, t, gd) (by simp)).2
          have h2 : yb (a'.tmps[gd]?) = some t := this
          show a'.tmps.getD gd undef = .bool t
          rw [Array.getD_eq_getD_getElem?]
          cases hq : a'.tmps[gd]? with
          | none => rw [hq] at h2; cases h2
          | some u => rw [hq] at h2; cases u <;> simp [yb] at h2; subst h2; rfl
        have hev : a'.eval (chosen t x y) = .bool v := by
          have := fr'.eval (E := E) (gl.mono x'.le) (okOpnd_chosen (w := t) hx hy)
          rw [hv] at this; exact this
        refine pick_wp epk hc ?_
        rw [hev]
        refine its_ok ok hcall r hrr (((fr.mono x'.le).top sb fr'.defs).put hd (av := .bool v) (rfl : VR μ' (.bool v) (.bool v))) s' (gl.mono x'.le) (lo.put hn _) hK ?_
        intro μ'' f'' h'' a'' w'' fr'' s'' x'' l'' sb' hK'
        exact he _ _ _ _ _ fr'' s'' (x'.trans x'') l'' (sb.append (SameBut.cons sb')) hK'
    · have hr : asB (eval' E (chosen wt y x) f) (fun v => runIts E call r (fput (ftop b.flat f) pk.dst (.bool v)) h K) := by
        cases t <;> cases wt <;> first | exact hr | exact absurd rfl hw
      obtain ⟨v, hv, hK⟩ := asB_inv hr
      refine dead_ok hb fr.size hj (by rw [hgt]; simpa [yb] using hw) (by simp) ?_
      have sb : SameBut b.flat a (putAll b.flat a) := .putAll _ _
      have lo : Live ops gs (putAll b.flat a) := l.same sb fun o ho g hg' => (hbd o ho).2 g (by simp [hg'])
      show wpListIn (Fo ro) 0 P ops Q (pk :: (r.flat ++ rest)) _ w
      unfold wpListIn
      rw [wanted_live (sameG_eq hg) lo, if_pos rfl]
      have hc : (putAll b.flat a).eval (.tmp gd) = .bool t := by
        show (putAll b.flat a).tmps.getD gd undef = .bool t
        rw [Array.getD_eq_getD_getElem?, sb.2 gd fun o ho => (hbd o ho).2 (j, wt, gd) (by simp), hgt]; rfl
      have hch : chosen t x y = chosen wt y x := by cases t <;> cases wt <;> first | rfl | exact absurd rfl hw
      have hev : (putAll b.flat a).eval (chosen t x y) = .bool v := by
        have := fr.eval (E := E) gl (okOpnd_chosen (w := wt) hy hx)
        rw [hv] at this
        have this : a.eval (chosen wt y x) = .bool v := this
        rw [hch, hcv] at *
        exact this
      refine pick_wp epk hc ?_
      rw [hev]
      refine its_ok ok hcall r hrr ((fr.top sb (by rw [putAll_defers]; exact fr.defs)).put hd (av := .bool v) (rfl : VR μ (.bool v) (.bool v))) s gl (lo.put hn _) hK ?_
      intro μ'' f'' h'' a'' w'' fr'' s'' x'' l'' sb' hK'
      exact he _ _ _ _ _ fr'' s'' x'' l'' (sb.append (SameBut.cons sb')) hK'
/-- the operations parted by their guards are the operations -/
theorem takeGuard_flat(l0:List Oper):∀(n:Nat)(g:Option (Nat×Bool))(l:List Oper),(takeGuard l0 n g l).1.flat++(takeGuard l0 n g l).2=l:=by
  intro n
  induction n with
  |zero=>intro g l;rfl
  |succ n ih=>
    intro g l
    cases l with
    |nil=>rfl
    |cons o l'=>
      show(takeStep l0 (takeGuard l0 n) g (o::l')).1.flat++(takeStep l0 (takeGuard l0 n) g (o::l')).2=o::l'
      unfold takeStep
      simp only
      cases hs:sameG o.guard g with
      |true=>
        simp only
        have:=ih g l'
        generalize takeGuard l0 n g l'=q at this ⊢
        obtain⟨q1,q2⟩:=q
        show o::(q1.flat++q2)=o::l'
        rw[this]
      |false=>
        simp only
        cases hg:o.guard with
        |none=>rfl
        |some p=>
          simp only
          cases gdOf l0 g p.1 with
          |none=>rfl
          |some gd=>
            simp only
            have hb:=ih (some p) (o::l')
            generalize takeGuard l0 n (some p) (o::l')=q at hb ⊢
            obtain⟨q1,q2⟩:=q
            cases q2 with
            |nil=>rfl
            |cons pk l''=>
              simp only
              have hc:=ih g l''
              generalize takeGuard l0 n g l''=z at hc ⊢
              obtain⟨z1,z2⟩:=z
              show(q1.flat++pk::z1.flat)++z2=o::l'
              rw[←hb,←hc];simp
theorem itsOf_flat{l:List Oper}{its:Its}(h:itsOf l=some its):its.flat=l:=by
  unfold itsOf at h
  have hf:=takeGuard_flat l (Nat.add (Nat.mul 2 (len l)) 2) none l
  generalize takeGuard l (Nat.add (Nat.mul 2 (len l)) 2) none l=q at h hf
  obtain⟨q1,q2⟩:=q
  cases q2 with
  |nil=>cases h;simpa using hf
  |cons=>cases h
end
end Go.Den
