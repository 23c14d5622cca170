/-
 Proof.
-/
import Derived.Test.YtheajahjkmfeaaaGreatDoorDenA
import Derived.Test.YtheajahjkmfeaaaGreatDoorDenC
noncomputable section
namespace Go.Den
abbrev FT:=Nat→AV
abbrev CF:=Abx Prop FT
abbrev H:=Hp FT
abbrev KV:=AV→H→Prop
def Ao(f:FT)(d:Nat)(v:AV):FT:=fun u=>Bool.rec (f u) v (Nat.beq u d)
def Ab(l:List AV):FT:=fun t=>Option.rec .undef (fun v=>v) (Ej l t)
def Bfi:FI where
 T:=FT
 init l:=Ab l
 get f t:=f t
 set f t v:=Ao f t v
 force f k:=k f
abbrev CP(E:Env):Cx Prop:=⟨E,Bfi,False⟩
def fN(n:Nat)(K:Nat→Prop):Prop:=Nat.rec False (fun m _=>K m) (Nat.succ n)
def fI(n:Int)(K:Int→Prop):Prop:=Int.rec (fun m=>fN m (fun m=>K (.ofNat m))) (fun m=>fN m (fun m=>K (.negSucc m))) n
def Ce(n:Int)(K:Nat→Prop):Prop:=Int.rec (fun m=>K m) (fun _=>False) n
def Ay(M:(Bool→H→Prop)→Prop)(k:Bool→H→Prop):Prop:=M k
def oV{α:Type}(o:Option α)(K:α→Prop):Prop:=Option.rec False K o
def oK(o:Option (AV×H))(k:KV):Prop:=Option.rec False (fun p=>Prod.rec (fun v h=>Cj v (fun v=>Hp.rec (fun m n=>Ks m (fun m=>k v ⟨m,n⟩)) h)) p) o
def cnd(t:Bool)(A B:Prop):Prop:=Bool.rec B A t
def gate(w t:Bool)(A B:Prop):Prop:=Bool.rec (Bool.rec A B t) (Bool.rec B A t) w
def Ij(l c i:Nat)(K:Nat→Prop):Prop:=Bool.rec False (fN (Fw c i) K) (Nat.ble (Nat.add i 1) l)
def No(l c lo hi:Nat)(K:Nat→Nat→Prop):Prop:=Bool.rec False (fN (Nat.sub hi lo) (fun n=>fN (Wi c lo hi) (fun d=>K n d))) (An (Nat.ble lo hi) (Nat.ble hi l))
def Bjd(l c m d:Nat)(K:Nat→Nat→Prop):Prop:=Bool.rec False (fN (Nat.add l m) (fun n=>fN (Aj5 l c d) (fun e=>K n e))) (Nat.ble (Nat.add l m) (intMax .i64))
def ltS(l c m d:Nat):Bool:=Kv (Hf l c) (Hf m d)
def Az6(k:IntKind)(a b:Int)(K:Int→Prop):Prop:=Bool.rec (fI (wrap k (a.tdiv b)) K) False (Bx b (.ofNat 0))
def Bmk(a b:Int)(K:Int→Prop):Prop:=Bool.rec (fI (a.tmod b) K) False (Bx b (.ofNat 0))
def Bdh(k:IntKind)(a b:Int)(K:Int→Prop):Prop:=Ce b (fun b=>fI (wrap k (a*2^(min b k.bits))) K)
def A57(k:IntKind)(a b:Int)(K:Int→Prop):Prop:=Ce b (fun b=>fI (a.fdiv (2^(min b k.bits))) K)
def Bec(a b:Int)(K:Nat→Nat→Prop):Prop:=Ce a (fun a=>Ce b (fun b=>K a b))
def Axz(g:Nat→Nat→Nat)(k:IntKind)(a b:Int)(K:Int→Prop):Prop:=Bec a b (fun a b=>Bool.rec False (fN (g a b) (fun n=>K (.ofNat n))) (An (Nat.ble a (intMax k)) (Nat.ble b (intMax k))))
def low(n:Nat):Nat:=(fun(_:Nat→(Nat→Prop)→Prop)(_:Int→(Int→Prop)→Prop)(_:((Bool→H→Prop)→Prop)→(Bool→H→Prop)→Prop)(_:Nat→Nat→Nat→(Nat→Prop)→Prop)(_:Nat→Nat→Nat→Nat→(Nat→Nat→Prop)→Prop)(_:Nat→Nat→Nat→Nat→(Nat→Nat→Prop)→Prop)
 (_:IntKind→Int→Int→(Int→Prop)→Prop) (_:IntKind→Int→Int→(Int→Prop)→Prop) (_:IntKind→Int→Int→(Int→Prop)→Prop) (_:(Nat→Nat→Nat)→IntKind→Int→Int→(Int→Prop)→Prop) (_:Option (AV×H)→KV→Prop) (_:H→P→Nat→Prop→(AV→Prop)→Prop) (_:H→P→Nat→List AV→Prop→(H→Prop)→Prop) (_:H→Ob FT→(P→H→Prop)→Prop)=>n)
 fN fI Ay Ij No Bjd Az6 Bdh A57 Axz oK (fun h b o x k=>h.Ih b o x k) (fun h b o l x k=>h.Hw b o l x k) (fun h o k=>h.Cs o k)
def As:Prop:=(fun(_:Nat)=>False) (low 0)
def Aft(a b:IntKind):Bool:=match a with
 |.i8=>match b with|.i8=>true|_=>false
 |.i16=>match b with|.i16=>true|_=>false
 |.i32=>match b with|.i32=>true|_=>false
 |.i64=>match b with|.i64=>true|_=>false
 |.u8=>match b with|.u8=>true|_=>false
 |.u16=>match b with|.u16=>true|_=>false
 |.u32=>match b with|.u32=>true|_=>false
 |.u64=>match b with|.u64=>true|_=>false
def chk(b:Bool)(K:Prop):Prop:=Bool.rec As K b
section
def asI(k:IntKind)(v:AV)(K:Int→Prop):Prop:=AV.rec (motive_1:=fun _=>Prop) (motive_2:=fun _=>Unit)
 (fun _=>As) (fun j n=>Bool.rec As (K n) (Aft k j)) (fun _ _=>As) As (fun _ _=>As) As (fun _ _ _ _ _=>As) As (fun _=>As) (fun _ _ _ _ _=>As) As (fun _ _ _=>As) As (fun _ _=>As) (fun _ _=>As) As () (fun _ _ _ _=>()) v
def Asg(v:AV)(K:Int→Prop):Prop:=AV.rec (motive_1:=fun _=>Prop) (motive_2:=fun _=>Unit)
 (fun _=>As) (fun _ n=>K n) (fun _ _=>As) As (fun _ _=>As) As (fun _ _ _ _ _=>As) As (fun _=>As) (fun _ _ _ _ _=>As) As (fun _ _ _=>As) As (fun _ _=>As) (fun _ _=>As) As () (fun _ _ _ _=>()) v
def asB(v:AV)(K:Bool→Prop):Prop:=AV.rec (motive_1:=fun _=>Prop) (motive_2:=fun _=>Unit)
 (fun b=>K b) (fun _ _=>As) (fun _ _=>As) As (fun _ _=>As) As (fun _ _ _ _ _=>As) As (fun _=>As) (fun _ _ _ _ _=>As) As (fun _ _ _=>As) As (fun _ _=>As) (fun _ _=>As) As () (fun _ _ _ _=>()) v
def asS(v:AV)(K:Nat→Nat→Prop):Prop:=AV.rec (motive_1:=fun _=>Prop) (motive_2:=fun _=>Unit)
 (fun _=>As) (fun _ _=>As) (fun l c=>K l c) As (fun _ _=>As) As (fun _ _ _ _ _=>As) As (fun _=>As) (fun _ _ _ _ _=>As) As (fun _ _ _=>As) As (fun _ _=>As) (fun _ _=>As) As () (fun _ _ _ _=>()) v
def asP(v:AV)(K:P→Nat→Prop):Prop:=AV.rec (motive_1:=fun _=>Prop) (motive_2:=fun _=>Unit)
 (fun _=>As) (fun _ _=>As) (fun _ _=>As) As (fun b o=>K b o) As (fun _ _ _ _ _=>As) As (fun _=>As) (fun _ _ _ _ _=>As) As (fun _ _ _=>As) As (fun _ _=>As) (fun _ _=>As) As () (fun _ _ _ _=>()) v
def asG(v:AV)(K:List AV→Prop):Prop:=AV.rec (motive_1:=fun _=>Prop) (motive_2:=fun _=>Unit)
 (fun _=>As) (fun _ _=>As) (fun _ _=>As) As (fun _ _=>As) As (fun _ _ _ _ _=>As) As (fun _=>As) (fun _ _ _ _ _=>As) As (fun _ _ _=>As) As (fun cs _=>K cs) (fun _ _=>As) As () (fun _ _ _ _=>()) v
def asT(v:AV)(K:List AV→Prop):Prop:=AV.rec (motive_1:=fun _=>Prop) (motive_2:=fun _=>Unit)
 (fun _=>As) (fun _ _=>As) (fun _ _=>As) As (fun _ _=>As) As (fun _ _ _ _ _=>As) As (fun _=>As) (fun _ _ _ _ _=>As) As (fun _ _ _=>As) As (fun _ _=>As) (fun cs _=>K cs) As () (fun _ _ _ _=>()) v
def Bbh(v:AV)(K:Fn→List AV→List AV→Prop):Prop:=AV.rec (motive_1:=fun _=>Prop) (motive_2:=fun _=>Unit)
 (fun _=>As) (fun _ _=>As) (fun _ _=>As) As (fun _ _=>As) As (fun _ _ _ _ _=>As) As (fun _=>As) (fun fn a c _ _=>K fn a c) As (fun _ _ _=>As) As (fun _ _=>As) (fun _ _=>As) As () (fun _ _ _ _=>()) v
def Xi(o:Ob FT)(K:(Nat→AV)→LpS→LoopState→AX→Prop):Prop:=Ob.rec As (fun _ _ _ _ _=>As) (fun _ _=>As) (fun _ _=>As) (fun _ _ _=>As) (fun f s st pd=>K f s st pd) (fun _ _ _ _=>As) o
def one(v:AV)(K:Prop):Prop:=AV.rec (motive_1:=fun _=>Prop) (motive_2:=fun _=>Unit)
 (fun _=>K) (fun _ _=>K) (fun _ _=>K) K (fun _ _=>K) K (fun _ _ _ _ _=>K) K (fun _=>K) (fun _ _ _ _ _=>K) K (fun _ _ _=>K) K (fun _ _=>As) (fun _ _=>As) As () (fun _ _ _ _=>()) v
def Cz(v:AV)(K:Nat→Prop):Prop:=AV.rec (motive_1:=fun _=>Prop) (motive_2:=fun _=>Unit)
 (fun _=>As) (fun _ _=>As) (fun _ _=>As) As (fun _ _=>As) (K 0) (fun _ _ n _ _=>K n) As (fun _=>As) (fun _ _ _ _ _=>As) As (fun _ _ _=>As) As (fun _ _=>As) (fun _ _=>As) As () (fun _ _ _ _=>()) v
def Cc(sz i:Nat)(v:AV)(K:AV→Prop):Prop:=AV.rec (motive_1:=fun _=>Prop) (motive_2:=fun _=>Unit)
 (fun _=>As) (fun _ _=>As) (fun _ _=>As) As (fun _ _=>As) As (fun b o n z _=>Bool.rec As (fN (Nat.add o (Nat.mul i sz)) (fun q=>K (.ptr b q))) (An (Nat.ble (Nat.add i 1) n) (Nat.beq sz z))) As (fun _=>As) (fun _ _ _ _ _=>As) As (fun _ _ _=>As) As (fun _ _=>As) (fun _ _=>As) As () (fun _ _ _ _=>()) v
end
def Ac(o:Nat)(v:AV)(K:AV→Prop):Prop:=asP v (fun b q=>fN (Nat.add q o) (fun q=>K (.ptr b q)))
def ld1(a:AV)(h:H)(K:AV→Prop):Prop:=asP a (fun b o=>h.Ih b o As K)
def ldn(n:Nat)(a:AV)(h:H)(K:AV→Prop):Prop:=asP a (fun b o=>h.Ix b o n As (fun l=>K (.agg l)))
def st1(a v:AV)(h:H)(K:H→Prop):Prop:=asP a (fun b o=>one v (h.Hw b o [v] As K))
def stn(n:Nat)(a v:AV)(h:H)(K:H→Prop):Prop:=asP a (fun b o=>asG v (fun cs=>Bool.rec As (h.Hw b o cs As K) (An (Nat.beq (len cs) n) (Nat.ble 1 n))))
def Bfk(o:Nat)(v:AV)(K:AV→Prop):Prop:=asG v (fun cs=>oV (Ej cs o) K)
def Bfj(o n:Nat)(v:AV)(K:AV→Prop):Prop:=asG v (fun cs=>K (.agg (Ln n (Qa o cs))))
def ext(i:Nat)(v:AV)(K:AV→Prop):Prop:=asT v (fun cs=>oV (Ej cs i) K)
def Bj2(o:Ob FT)(K:P→Nat→List Nat→Nat→Prop):Prop:=Ob.rec As (fun _ _ _ _ _=>As) (fun _ _=>As) (fun _ _=>As) (fun _ _ _=>As) (fun _ _ _ _=>As) (fun m since seen stepped=>K m since seen stepped) o
abbrev Ent:=AV×AV×Nat
def Aib(n:Nat)(l:List Nat):Bool:=List.rec false (fun x _ ih=>Bool.rec ih true (Nat.beq x n)) l
def leftOf(seen:List Nat)(es:List Ent):List Ent:=List.rec [] (fun e _ ih=>Bool.rec (e::ih) ih (Aib e.2.2 seen)) es
def Alz(since:Nat)(l:List Ent):Bool:=List.rec true (fun e _ ih=>Bool.rec false ih (Nat.ble (Nat.add e.2.2 1) since)) l
def Agz(stepped:Nat)(l:List Ent):Bool:=List.rec false (fun e _ ih=>Bool.rec ih true (Nat.ble (Nat.add e.2.2 1) stepped)) l
def Aaz{α:Type}(l:List α):Bool:=List.rec true (fun _ _ _=>false) l
def Aqm(K:Ent→Prop)(l:List Ent):Prop:=List.rec True (fun e r ih=>List.rec (K e) (fun _ _ _=>And (K e) ih) r) l
def Ds(b m:P)(since:Nat)(seen:List Nat)(es:List Ent)(clock:Nat)(h:H)(k:KV):Prop:=
 List.rec (k (.tuple [.bool false]) h) (fun e r _=>Aqm (fun e=>h.Kl b (.Pz m since (Jh seen [e.2.2]) clock) (fun h=>k (.tuple [.bool true,e.1,e.2.1]) h)) (e::r)) (leftOf seen es)
def Aur(it:AV)(h:H)(k:KV):Prop:=asP it (fun b o=>Bool.rec As (Bj2 (h.at b) (fun m since seen stepped=>oV (Kt (h.at m)) (fun p=>Bool.rec As (Ds b m since seen p.1 p.2 h k)
 (An (Alz since (leftOf seen p.1)) (Bool.rec (Bool.rec (Agz stepped p.1) true (Aaz p.1)) true (Aaz seen)))))) (Nat.beq o 0))
section
variable(E:Env)
def eval'(o:Operand)(f:FT):AV:=eval (CP E) o f
def coD(d:TypeDesc)(v:AV)(K:AV→Prop):Prop:=match d with
 |.int k=>asI k v (fun n=>K (.int k n))
 |.bool=>asB v (fun b=>K (.bool b))
 |.string=>asS v (fun l c=>K (.str l c))
 |_=>K v
def coK(t:TypeId)(v:AV)(K:AV→Prop):Prop:=match E.ty t with
 |some ti=>coD ti.desc v K
 |none=>K v
def bI(op:BinOp)(k:IntKind)(a b:Int)(K:AV→Prop):Prop:=match op with
 |.add=>fI (wrap k (Bq a b)) (fun n=>K (.int k n))
 |.sub=>fI (wrap k (Mg a b)) (fun n=>K (.int k n))
 |.mul=>fI (wrap k (a*b)) (fun n=>K (.int k n))
 |.eql=>K (.bool (Bx a b))
 |.neq=>K (.bool (Ci (Bx a b)))
 |.lss=>K (.bool (Ca a b))
 |.leq=>K (.bool (Ef a b))
 |.gtr=>K (.bool (Ca b a))
 |.geq=>K (.bool (Ef b a))
 |.quo=>Az6 k a b (fun n=>K (.int k n))
 |.rem=>Bmk a b (fun n=>K (.int k n))
 |.shl=>Bdh k a b (fun n=>K (.int k n))
 |.shr=>A57 k a b (fun n=>K (.int k n))
 |.and=>Axz Nat.land k a b (fun n=>K (.int k n))
 |.or=>Axz Nat.lor k a b (fun n=>K (.int k n))
 |.xor=>Axz Nat.xor k a b (fun n=>K (.int k n))
 |.andNot=>False
def bS(op:BinOp)(l c m d:Nat)(K:AV→Prop):Prop:=match op with
 |.add=>Bjd l c m d (fun n e=>K (.str n e))
 |.eql=>K (.bool (Dv l c m d))
 |.neq=>K (.bool (Ci (Dv l c m d)))
 |.lss=>K (.bool (ltS l c m d))
 |.geq=>K (.bool (Ci (ltS l c m d)))
 |_=>False
def Apz(op:BinOp):Bool:=match op with
 |.shl=>true
 |.shr=>true
 |_=>false
def Bbg(op:BinOp)(k:IntKind)(y:AV)(K:Int→Prop):Prop:=match Apz op with
 |true=>Asg y K
 |false=>asI k y K
def Bbb(op:BinOp)(t:TypeId)(d:TypeDesc)(x y:AV)(K:AV→Prop):Prop:=match d with
 |.int k=>asI k x (fun a=>Bbg op k y (fun b=>bI op k a b K))
 |.string=>asS x (fun l c=>asS y (fun m d=>bS op l c m d K))
 |_=>oV (Hh E op t x y) K
def Ax2(op:BinOp)(t:TypeId)(x y:AV)(K:AV→Prop):Prop:=match E.ty t with
 |some ti=>Bbb E op t ti.desc x y K
 |none=>False
def Asb(op:BinOp)(t:TypeId)(ox oy:Operand)(x y:AV)(K:AV→Prop):Prop:=Bool.rec (Ax2 E op t x y K) (oV (Alr E op t x y) K) (Alu E op t ox oy)
def un2(op:UnOp)(x:AV)(K:AV→Prop):Prop:=match op with
 |.not=>asB x (fun b=>K (.bool (Ci b)))
 |op=>oV (unA op x) K
def Adc(t:TypeId)(a:AV)(h:H)(K:AV→Prop):Prop:=match E.ty t with
 |some i=>match i.agg with
  |true=>ldn i.size a h K
  |false=>ld1 a h K
 |none=>False
def Aj6(t:TypeId)(a v:AV)(h:H)(K:H→Prop):Prop:=match E.ty t with
 |some i=>match i.agg with
  |true=>stn i.size a v h K
  |false=>match Nat.beq i.size 1 with
   |true=>st1 a v h K
   |false=>False
 |none=>False
def Ap7(t:TypeId)(i:Nat):Option (Nat×Nat×Bool):=match E.ty t with
 |some ti=>match ti.desc with
  |.struct fs=>match Nk fs.toList i with
   |some p=>match E.ty p.2 with
    |some fi=>some (p.1,fi.size,fi.agg)
    |none=>none
   |none=>none
  |_=>none
 |none=>none
def Aa7(t:TypeId)(x:AV)(i:Nat)(K:AV→Prop):Prop:=match Ap7 E t i with
 |some p=>match p.2.2 with
  |true=>Bfj p.1 p.2.1 x K
  |false=>Bfk p.1 x K
 |none=>False
def Vf(t:TypeId)(x:AV)(i:Nat)(K:AV→Prop):Prop:=match Wz E t i with
 |some o=>Ac o x K
 |none=>False
def Akn(v:AV)(K:Nat→Prop):Prop:=Asg v (fun n=>Ce n K)
def Ml(t:TypeId)(x i:AV)(h:H)(k:KV):Prop:=match Sb E t with
 |some e=>match E.ty e with
  |some ei=>Akn i (fun n=>Cc ei.size n x (fun v=>k v h))
  |none=>False
 |none=>oK (Gf E t x (Bp i) h) k
def Ra(t:TypeId)(x i:AV)(h:H)(k:KV):Prop:=match E.ty t with
 |some ti=>match isStr ti.desc with
  |true=>asS x (fun l c=>Akn i (fun n=>Ij l c n (fun b=>k (.int .u8 (.ofNat b)) h)))
  |false=>oK (Mo E t x (Bp i) h) k
 |none=>False
def Ail(ats:List TypeId)(d:TypeDesc)(x:AV)(h:H)(k:KV):Prop:=match d with
 |.string=>asS x (fun l _=>k (.int .i64 (.ofNat l)) h)
 |.slice _=>Cz x (fun n=>k (.int .i64 (.ofNat n)) h)
 |_=>oK (Qc E ats x h) k
def Arq(ats:List TypeId)(x:AV)(h:H)(k:KV):Prop:=match Ej ats 0 with
 |some t=>match E.ty t with
  |some ti=>Ail E ats ti.desc x h k
  |none=>False
 |none=>False
def Kg(b:Builtin)(ats:List TypeId)(args:List AV)(h:H)(k:KV):Prop:=match b with
 |.len=>match args with
  |[x]=>Arq E ats x h k
  |_=>False
 |b=>oK (Ar E b ats args h) k
def Ex(t:TypeId):Bool:=match E.ty t with
 |some ti=>Ow ti.desc
 |none=>false
def Abc(s d:TypeId)(dd:TypeDesc)(x:AV)(h:H)(k:KV):Prop:=match dd with
 |.int kd=>match Ex E s with
  |true=>Asg x (fun n=>fI (wrap kd n) (fun n=>k (.int kd n) h))
  |false=>oK (Ia E h s d x) k
 |_=>oK (Ia E h s d x) k
def Vq(s d:TypeId)(x:AV)(h:H)(k:KV):Prop:=match E.ty d with
 |some ti=>Abc E s d ti.desc x h k
 |none=>False
def Ar8(o:Option AV)(d:Nat)(K:Nat→Prop):Prop:=match o with
 |some v=>Akn v K
 |none=>K d
def slice3(h:H)(t:TypeId)(x:AV)(lo hi mx:Option (Option Nat)):Option (AV×H):=Option.rec none (fun m=>Fm h (Kk E h t x lo hi m)) (maxOf mx)
def Mt(t:TypeId)(x:AV)(lo hi mx:Option AV)(h:H)(k:KV):Prop:=match E.ty t with
 |some ti=>match isStr ti.desc with
  |true=>match mx with
   |none=>asS x (fun l c=>Ar8 hi l (fun hi=>Ar8 lo 0 (fun lo=>No l c lo hi (fun n d=>k (.str n d) h))))
   |some _=>False
  |false=>oK (slice3 E h t x (lo.map Bp) (hi.map Bp) (mx.map Bp)) k
 |none=>False
def Aly(e:TypeId)(h:H)(k:KV):Prop:=match E.ty e with
 |some i=>h.Cs (rowOf e i.zero) (fun b h=>k (.ptr b 0) h)
 |none=>False
def Aaq(t:TypeId)(x:AV)(h:H)(k:KV):Prop:=match E.ty t with
 |some ti=>match isIface ti.desc with
  |true=>False
  |false=>k (.iface t x) h
 |none=>False
def A2c(e:TypeId)(v:AV)(h:H)(k:KV):Prop:=match E.ty e with
 |some i=>match i.agg with
  |true=>asG v (fun cs=>Bool.rec As (h.Cs (rowOf e cs) (fun b h=>k (.ptr b 0) h)) (Nat.ble 1 (len cs)))
  |false=>one v (h.Cs (rowOf e [v]) (fun b h=>k (.ptr b 0) h))
 |none=>False
def A2a(call:CF)(fv:AV)(args:List AV)(h:H)(k:KV):Prop:=Mq (CP E) call fv args h k
def inv2(call:CF)(fv:AV)(name:String)(args:List AV)(h:H)(k:KV):Prop:=Adu (CP E) call fv name args h k
def Hv(E:Env)(f:FT)(l:List Operand):List AV:=List.rec [] (fun x _ ih=>eval' E x f::ih) l
def Ea(o:Op)(call:CF)(f:FT)(h:H)(k:KV):Prop:=match o with
 |.move x=>k (eval' E x f) h
 |.assign x=>k (eval' E x f) h
 |.alloc e=>Aly E e h k
 |.box e x=>A2c E e (eval' E x f) h k
 |.load t a=>Adc E t (eval' E a f) h (fun v=>k v h)
 |.store t a x=>Aj6 E t (eval' E a f) (eval' E x f) h (fun h=>k .undef h)
 |.binOp op t x y _=>Asb E op t x y (eval' E x f) (eval' E y f) (fun v=>k v h)
 |.unOp op _ x=>un2 op (eval' E x f) (fun v=>k v h)
 |.convert s d x=>Vq E s d (eval' E x f) h k
 |.makeInterface t x=>Aaq E t (eval' E x f) h k
 |.slice t x lo hi mx=>Mt E t (eval' E x f) (lo.map (fun x=>eval' E x f)) (hi.map (fun x=>eval' E x f)) (mx.map (fun x=>eval' E x f)) h k
 |.fieldAddr t x i=>Vf E t (eval' E x f) i (fun v=>k v h)
 |.field t x i=>Aa7 E t (eval' E x f) i (fun v=>k v h)
 |.indexAddr t x i=>Ml E t (eval' E x f) (eval' E i f) h k
 |.index t x i=>Ra E t (eval' E x f) (eval' E i f) h k
 |.extract x i=>ext i (eval' E x f) (fun v=>k v h)
 |.call c=>match c.callee with
  |.builtin b=>Kg E b c.argTypes.toList (Hv E f c.args.toList) h k
  |.invoke r name=>inv2 E call (eval' E r f) name (Hv E f c.args.toList) h k
  |.value v=>A2a E call (eval' E v f) (Hv E f c.args.toList) h k
 |.makeFunc fn a b=>k (.func fn (Hv E f a.toList) (Hv E f b.toList)) h
 |o=>exec o (CP E) call f h k
def Av8(o:Op)(call:CF)(f:FT)(h:H)(k:KV):Prop:=match o with
 |.next x b=>match b with
  |false=>Aur (eval' E x f) h k
  |true=>Ea E (.next x true) call f h k
 |o=>Ea E o call f h k
end
inductive Its where
 |nil
 |op (o:Oper) (rest:Its)
 |grp (j:Nat) (gd:Tmp) (want:Bool) (body:Its) (pk:Oper) (rest:Its)
def Its.flat:Its→List Oper
 |.nil=>[]
 |.op o r=>o::r.flat
 |.grp _ _ _ b pk r=>b.flat++pk::r.flat
def Du(f:FT)(d:Option Tmp)(v:AV):FT:=match d with
 |some d=>Ao f d v
 |none=>f
def Acb(l:List Oper)(f:FT):FT:=match l with
 |[]=>f
 |o::l=>Acb l (Du f o.dst .top)
def Auf(o:Op):Option (Operand×Operand×Operand):=match o with
 |.pick c a b=>some (c,a,b)
 |_=>none
def Ed(w:Bool)(x y:Operand):Operand:=Bool.rec y x w
def A8t (E : Env) (w : Bool) (bf : List Oper) (pk : Oper) (t : Bool) (body rest : FT → H → (FT → H → Prop) → Prop) (f : FT) (h : H) (K : FT → H → Prop) : Prop := match Auf pk.op with
  | none => False
  | some (_, x, y) => Ay (fun kj => gate w t
        (body f h (fun f h => asB (eval' E (Ed w x y) f) (fun v => kj v h)))
        (asB (eval' E (Ed w y x) f) (fun v => kj v h)))
        (fun v h => rest (Du (Acb bf f) pk.dst (.bool v)) h K)
def Gh(E:Env)(call:CF)(its:Its):FT→H→(FT→H→Prop)→Prop:=Its.rec (motive:=fun _=>FT→H→(FT→H→Prop)→Prop)
 (fun f h K=>K f h)
 (fun o _ ih f h K=>Av8 E o.op call f h (fun v h=>coK E o.type v (fun v=>ih (Du f o.dst v) h K)))
 (fun _ gd w b pk _ ihb ihr f h K=>asB (f gd) (fun t=>A8t E w b.flat pk t ihb ihr f h K)) its
def Fx(a b:Option (Nat×Bool)):Bool:=match a with
 |none=>match b with
  |none=>true
  |some _=>false
 |some (i,v)=>match b with
  |none=>false
  |some (j,w)=>and (Nat.beq i j) (Aqw v w)
where Aqw (v w:Bool):Bool:=match v with
 |true=>w
 |false=>match w with
  |true=>false
  |false=>true
def A1c(ops:List Oper)(g:Option (Nat×Bool))(j:Nat):Option Tmp:=Option.rec none (fun o=>Bool.rec none o.dst (Fx o.guard g)) (Ej ops j)
abbrev Aq4:=Option (Nat×Bool)→List Oper→Its×List Oper
def Uc(ops:List Oper)(ih:Aq4):Aq4:=fun g l=>List.rec (.nil,[])
 (fun o l' _=>Bool.rec
  (Option.rec (.nil,o::l') (fun p=>Option.rec (.nil,o::l') (fun gd=>
   Prod.rec (fun b r=>List.rec (.nil,o::l') (fun pk l'' _=>Prod.rec (fun q r=>(.grp p.1 gd p.2 b pk q,r)) (ih g l'')) r) (ih (some p) (o::l'))) (A1c ops g p.1)) o.guard)
  (Prod.rec (fun q r=>(.op o q,r)) (ih g l')) (Fx o.guard g)) l
def Hl(ops:List Oper)(n:Nat):Aq4:=Nat.rec (motive:=fun _=>Aq4) (fun _ l=>(.nil,l)) (fun _ ih=>Uc ops ih) n
def Aax(ops:List Oper):Option Its:=Prod.rec (fun q r=>List.rec (some q) (fun _ _ _=>none) r) (Hl ops (Nat.add (Nat.mul 2 (len ops)) 2) none ops)
def allEq(r:AV→AV→Bool)(xs:List AV):List AV→Bool:=List.rec (motive:=fun _=>List AV→Bool) (fun ys=>List.rec true (fun _ _ _=>false) ys) (fun x _ ih ys=>List.rec false (fun y ys _=>An (r x y) (ih ys)) ys) xs
def A8u(x y:Fn):Bool:=match x with
 |.func i=>match y with|.func j=>Nat.beq i j|_=>false
 |_=>false
def Ax8(r:AV→AV→Bool)(x y:AV):Bool:=match x with
 |.bool a=>match y with|.bool b=>Ajq a b|_=>false
 |.int k a=>match y with|.int j b=>An (Aft k j) (Bx a b)|_=>false
 |.str l c=>match y with|.str m d=>An (Nat.beq l m) (Nat.beq c d)|_=>false
 |.Cm=>match y with|.Cm=>true|_=>false
 |.ptr a i=>match y with|.ptr b j=>An (P.beq a b) (Nat.beq i j)|_=>false
 |.Ai=>match y with|.Ai=>true|_=>false
 |.slice a i n z t=>match y with|.slice b j m w u=>An (An (P.beq a b) (Nat.beq i j)) (An (An (Nat.beq n m) (Nat.beq z w)) (Ajq t u))|_=>false
 |.Qx=>match y with|.Qx=>true|_=>false
 |.map a=>match y with|.map b=>P.beq a b|_=>false
 |.func f a c=>match y with|.func g b d=>An (A8u f g) (An (allEq r a b) (allEq r c d))|_=>false
 |.Uv=>match y with|.Uv=>true|_=>false
 |.iface t v=>match y with|.iface u w=>An (Nat.beq t u) (r v w)|_=>false
 |.Mf=>match y with|.Mf=>true|_=>false
 |.agg xs=>match y with|.agg ys=>allEq r xs ys|_=>false
 |.tuple xs=>match y with|.tuple ys=>allEq r xs ys|_=>false
 |_=>false
def Ajr(n:Nat):AV→AV→Bool:=Nat.rec (fun _ _=>false) (fun _ ih=>Ax8 ih) n
def eqC(x y:AV)(A:Prop):Prop:=Bool.rec As A (Ajr 4 x y)
section
variable(E:Env)
def Ey(p:TypeDesc→Bool)(t:TypeId):Bool:=match E.ty t with
 |some ti=>p ti.desc
 |none=>false
def Qz(d:TypeDesc):Bool:=match d with
 |.slice _=>true
 |_=>false
def Hq(d:TypeDesc):Bool:=match d with
 |.slice _=>true
 |.string=>true
 |_=>false
def kindOf(o:Op):Nat:=match o with
 |.move _=>0
 |.assign _=>0
 |.binOp ..=>0
 |.unOp ..=>0
 |.fieldAddr ..=>0
 |.field ..=>0
 |.extract ..=>0
 |.makeInterface ..=>0
 |.makeFunc ..=>0
 |.index ..=>0
 |.indexAddr ..=>0
 |.nilCheck _=>0
 |.build ..=>0
 |.pick ..=>0
 |.slice t _ _ _ _=>Bool.rec 1 0 (Ey E Hq t)
 |.convert s d _=>Bool.rec (Bool.rec 1 2 (Ey E Qz d)) 0 (An (Ex E s) (Ex E d))
 |.load ..=>1
 |.lookup ..=>1
 |.call c=>match c.callee with
  |.builtin b=>match b with
   |.len=>match c.argTypes.toList with
    |t::_=>Bool.rec 1 0 (Ey E Hq t)
    |[]=>1
   |.cap=>1
   |.unsafeSliceData=>1
   |.min=>1
   |.max=>1
   |_=>2
  |_=>2
 |_=>2
inductive Dr where
 |nil
 |op (i:Nat) (o:Oper) (rl:List (Nat×Oper)) (rest:Dr)
 |grp (j:Nat) (gd:Tmp) (want:Bool) (body:Dr) (ip:Nat) (pk:Oper) (rest:Dr)
abbrev Tri:=Nat×Oper×List (Nat×Oper)
def Zq(l:List (Nat×Oper)):List Oper:=List.rec [] (fun p _ ih=>p.2::ih) l
abbrev Ag0:=Option (Nat×Bool)→List Tri→Dr×List Tri
def Rt(ops:List Oper)(ih:Ag0):Ag0:=fun g l=>List.rec (.nil,[])
 (fun o l' _=>Bool.rec
  (Option.rec (.nil,o::l') (fun p=>Option.rec (.nil,o::l') (fun gd=>
   Prod.rec (fun b r=>List.rec (.nil,o::l') (fun pk l'' _=>Prod.rec (fun q r=>(.grp p.1 gd p.2 b pk.1 pk.2.1 q,r)) (ih g l'')) r) (ih (some p) (o::l'))) (A1c ops g p.1)) o.2.1.guard)
  (Prod.rec (fun q r=>(.op o.1 o.2.1 o.2.2 q,r)) (ih g l')) (Fx o.2.1.guard g)) l
def Gg(ops:List Oper)(n:Nat):Ag0:=Nat.rec (motive:=fun _=>Ag0) (fun _ l=>(.nil,l)) (fun _ ih=>Rt ops ih) n
def Og(call:CF)(rl:List Oper)(f:FT)(h:H)(A:Prop):Prop:=List.rec A (fun o _ ih=>Ea E o.op call f h (fun v _=>coK E o.type v (fun v=>eqC v (Option.rec .undef f o.dst) ih))) rl
def Dr.Vo(its:Dr):List (Option Tmp):=Dr.rec [] (fun _ o _ _ ih=>o.dst::ih) (fun _ _ _ _ _ pk _ ihb ihr=>Jh ihb (pk.dst::ihr)) its
def Yf(l:List (Option Tmp))(f:FT):FT:=List.rec (motive:=fun _=>FT→FT) (fun f=>f) (fun d _ ih f=>ih (Du f d .top)) l f
def A8s (w : Bool) (bd : List (Option Tmp)) (pk : Oper) (t : Bool) (body rest : FT → H → (FT → H → Prop) → Prop) (f : FT) (h : H) (K : FT → H → Prop) : Prop := match Auf pk.op with
  | none => False
  | some (_, x, y) => Ay (fun kj => gate w t
        (body f h (fun f h => asB (eval' E (Ed w x y) f) (fun v => kj v h)))
        (asB (eval' E (Ed w y x) f) (fun v => kj v h)))
        (fun v h => rest (Du (Yf bd f) pk.dst (.bool v)) h K)
def Jj(call:CF)(its:Dr):FT→H→(FT→H→Prop)→Prop:=Dr.rec (motive:=fun _=>FT→H→(FT→H→Prop)→Prop)
 (fun f h K=>K f h)
 (fun _ o rl _ ih f h K=>Ea E o.op call f h (fun v h=>coK E o.type v (fun v=>Og E call (Zq rl) (Du f o.dst v) h (ih (Du f o.dst v) h K))))
 (fun _ gd w b _ pk _ ihb ihr f h K=>asB (f gd) (fun t=>A8s E w b.Vo pk t ihb ihr f h K)) its
end
def Tl(acc:List Nat)(es:List Edge):Nat:=List.rec 0 (fun e _ ih=>Bool.rec ih (Nat.lor ih (Nat.lor (Nat.shiftLeft 1 e.on) (Option.rec 0 (fun m=>m) (Ej acc e.on)))) (Region.binds .any e)) es
def Ib(l:List Oper):List Nat→List Nat:=List.rec (motive:=fun _=>List Nat→List Nat) (fun acc=>acc) (fun o _ ih acc=>ih (Jh acc [Tl acc o.after.toList])) l
def bit(m i:Nat):Bool:=Nat.beq (Nat.mod (Nat.shiftRight m i) 2) 1
def Ark(E:Env)(_ms:List Nat)(m:Nat)(g:Option (Nat×Bool))(done:List (Nat×Oper)):List (Nat×Oper):=List.rec [] (fun p _ ih=>Bool.rec ih (p::ih) (An (Nat.beq (kindOf E p.2.op) 1) (An (Bool.rec (Fx p.2.guard g) true (Fx p.2.guard none)) (Ci (bit m p.1))))) done
def Vb(o:Op):Bool:=match o with
 |.alloc _=>true
 |.makeMap _ r=>match r with
  |none=>true
  |some _=>false
 |.makeSlice _ _ _=>true
 |.buildSlice _ _ _=>true
 |.box _ _=>true
 |_=>false
def Aux(o:Op)(ms:List Nat)(i:Nat)(pl:List Nat):Nat:=Bool.rec (Option.rec 0 (fun m=>m) (Ej ms i)) (Bool.rec 0 (Option.rec 0 (fun m=>m) (Ej ms i)) (List.rec true (fun j _ ih=>Bool.rec false ih (bit (Option.rec 0 (fun m=>m) (Ej ms j)) i)) pl)) (Vb o)
def triples(E:Env)(ops:List Oper)(ms pl:List Nat):List (Nat×Oper)→List Tri:=List.rec (motive:=fun _=>List (Nat×Oper)→List Tri) (fun _=>[])
 (fun i pl ih done=>Option.rec [] (fun o=>(i,o,Bool.rec [] (Ark E ms (Aux o.op ms i pl) o.guard done) (Nat.beq (kindOf E o.op) 2))::ih (Jh done [(i,o)])) (Ej ops i)) pl
def Ar0(E:Env)(ops:List Oper)(pl:List Nat):Option Dr:=Prod.rec (fun q r=>List.rec (some q) (fun _ _ _=>none) r) (Gg ops (Nat.add (Nat.mul 2 (len ops)) 2) none (triples E ops (Ib ops []) pl []))
abbrev Aq:=List (Nat×List Nat)
def Kn(ps:Aq)(id:Nat):Option (List Nat):=List.rec none (fun p _ ih=>Bool.rec ih (some p.2) (Nat.beq p.1 id)) ps
inductive Pos where
 |root
 |l (p:Pos)
 |r (p:Pos)
 |lab (p:Pos) (n:Nat)
def Pos.beq(p:Pos):Pos→Bool:=Pos.rec (motive:=fun _=>Pos→Bool)
 (fun q=>Pos.rec true (fun _ _=>false) (fun _ _=>false) (fun _ _ _=>false) q)
 (fun _ ih q=>Pos.rec false (fun q _=>ih q) (fun _ _=>false) (fun _ _ _=>false) q)
 (fun _ ih q=>Pos.rec false (fun _ _=>false) (fun q _=>ih q) (fun _ _ _=>false) q)
 (fun _ n ih q=>Pos.rec false (fun _ _=>false) (fun _ _=>false) (fun q m _=>An (Nat.beq n m) (ih q)) q) p
abbrev Bb:=List (Pos×Nat)
def cutAt(cs:Bb)(p:Pos):Option Nat:=List.rec none (fun c _ ih=>Bool.rec ih (some c.2) (Pos.beq c.1 p)) cs
abbrev Jump:=Nat→FT→H→Prop
abbrev KX':=AX→FT→H→Prop
def Uh(ds:List Tmp):List AV→FT→FT:=List.rec (motive:=fun _=>List AV→FT→FT) (fun _ f=>f) (fun d _ ih vs f=>List.rec f (fun v vs _=>ih vs (Ao f d v)) vs) ds
def Yv(E:Env)(fn:Fn):Bool:=match fn with
 |.func f=>match E.fn f with
  |some fn=>match fn.body with
   | some _ => !(fn.name == "runtime.NumGoroutine")
   |none=>false
  |none=>false
 |_=>false
def isReady(s:LoopState):Bool:=match s with
 |.ready=>true
 |_=>false
def A0n(s:LoopState):Bool:=match s with
 |.busy=>false
 |_=>true
def nOf(pls:Aq):Nat:=Option.rec 0 (fun l=>List.rec 0 (fun n _ _=>n) l) (Kn pls 4294967295)
def Yk(pls:Aq):List Nat:=Option.rec [] (fun l=>l) (Kn pls 4294967294)
def Pd(l:List Nat)(f:FT):FT:=List.rec (fun _=>.top) (fun t _ ih=>Ao ih t (f t)) l
def pFs(n:Nat):Nat→P:=Nat.rec (motive:=fun _=>Nat→P) (fun _=>.z) (fun _ ih m=>Bool.rec (Bool.rec (.r (ih (Nat.div (Nat.sub m 2) 2))) (.l (ih (Nat.div (Nat.sub m 1) 2))) (Nat.beq (Nat.mod m 2) 1)) .z (Nat.beq m 0)) n
def Awn(l:P)(K:AX→H→Prop)(h:H):Prop:=Xi (h.at l) (fun f' s st pd=>Bool.rec As (h.Kl l (.loop f' s .exhausted pd) (fun h=>K pd h)) (A0n st))
def Qq(E:Env)(call:CF)(lp:LpS)(g:AV)(f:FT)(h:H)(K:AX→H→Prop):Prop:=
 Bbh g (fun fn a c=>Bool.rec As (h.Cs (.loop f lp .ready .normal) (fun l h=>call fn (a++[.func (.yield l.nat) [] []]++c) h (fun _ h=>Awn l K h))) (Yv E fn))
def Xh(x y:AX):Bool:=match x with
 |.normal=>match y with|.normal=>true|_=>false
 |.exit i=>match y with|.exit j=>Nat.beq i j|_=>false
 |.goto i=>match y with|.goto j=>Nat.beq i j|_=>false
 |.ret=>match y with|.ret=>true|_=>false
def Bmt(x:AX)(l:List AX):Bool:=List.rec false (fun y _ ih=>Bool.rec ih true (Xh x y)) l
def Bi7(l:List AX):List AX:=List.rec [] (fun x _ ih=>Bool.rec (x::ih) ih (Bmt x ih)) l
def Bi4(id:Nat)(l:List AX):List AX:=List.rec [] (fun x _ ih=>Bool.rec (x::ih) ih (Xh x (.exit id))) l
def Aqb(c:Code):List AX:=Code.rec (motive:=fun _=>List AX) [] (fun _ _ _=>[]) (fun _ _ x y=>Jh x y) (fun _ _ _ x y=>Jh x y) (fun id _ x=>Bi4 id x) (fun _ x=>x)
 (fun _ _ _ _ x y=>Jh x y) (fun id=>[.exit id]) (fun _ x=>x) (fun _=>[]) (fun l=>[.goto l]) [.ret] (fun _=>[]) c
def Apc(x:AX)(l:List AX)(K:AX→Prop):Prop:=List.rec False (fun y _ ih=>cnd (Xh x y) (K y) ih) l
def opsOf(c:Code):Array Oper:=match c with
 |.region _ ops _=>ops
 |_=>#[]
def Avo(c:Code):Nat:=match c with
 |.region id _ _=>id
 |_=>0
def Afi(l:List Oper)(i:Nat):Oper:=Option.rec ⟨none,.move (.tmp 0),0,default,#[],none⟩ (fun o=>o) (Ej l i)
def A4e(o:Oper):Array TypeId:=match o.op with
 |.defer c=>c.argTypes
 |_=>#[]
theorem A2i{x y:AX}(h:Xh x y=true):x=y:=by
 cases x<;>cases y<;>first|rfl|cases h|(rw[Nat.eq_of_beq_eq_true (show Nat.beq _ _=true from h)])
theorem Ac5{x:AX}{K:AX→Prop}:∀{l:List AX},Apc x l K→K x
 |[],h=>h.elim
 |y::l,h=>by
  have h:cnd (Xh x y) (K y) (Apc x l K):=h
  cases e:Xh x y with
  |true=>rw[e] at h;rw[A2i e];exact h
  |false=>rw[e] at h;exact Ac5 h
def A7w(pls:Aq)(c:Code):LpS:=match c with
 |.rangeFunc _ ps as bd=>⟨ps.toList,as,bd,pls,nOf pls⟩
 |_=>⟨[],.skip,.skip,[],0⟩
def Pk(c:Code)(p:Pos):Code:=Pos.rec c
 (fun _ ih=>match ih with|.seq a _=>a|.cond _ a _=>a|.block _ a=>a|.loop a=>a|.scope a=>a|_=>.skip)
 (fun _ ih=>match ih with|.seq _ b=>b|.cond _ _ b=>b|_=>.skip)
 (fun _ n ih=>match ih with|.scope a=>Option.rec .skip (fun c=>c) (findLabel a n)|_=>.skip) p
section
variable(E:Env)(call:CF)(pls:Aq)(cuts:Bb)(J:Jump)
def enter(p:Pos)(f:FT)(h:H)(A:Prop):Prop:=Option.rec A (fun L=>J L f h) (cutAt cuts p)
def A58(B:FT→H→KX'→Prop)(K:KX'):KX':=fun x f h=>AX.rec (B f h K) (fun id=>K (.exit id) f h) (fun l=>K (.goto l) f h) (K .ret f h) x
def Alq(id:Nat)(K:KX'):KX':=fun x f h=>AX.rec (K .normal f h) (fun j=>Bool.rec (K (.exit j) f h) (K .normal f h) (Nat.beq j id)) (fun l=>K (.goto l) f h) (K .ret f h) x
def Au0(B:FT→H→Prop)(K:KX'):KX':=fun x f h=>AX.rec (B f h) (fun id=>K (.exit id) f h) (fun l=>K (.goto l) f h) (K .ret f h) x
def Zt(c:Code)(B:Nat→FT→H→Prop)(K:KX'):KX':=fun x f h=>AX.rec (K .normal f h) (fun id=>K (.exit id) f h) (fun l=>Option.rec (K (.goto l) f h) (fun _=>B l f h) (findLabel c l)) (K .ret f h) x
def Bi5(id:Nat)(ops:List Oper)(f:FT)(h:H)(K:FT→H→Prop):Prop:=oV (Kn pls id) (fun pl=>List.rec False (fun _ _ _=>oV (Ar0 E ops pl) (fun its=>Jj E call its f h K)) pl)
def Bdm(id:Nat)(ops:List Oper)(d:Bool)(f:FT)(h:H)(K:FT→H→Prop):Prop:=Bool.rec (Option.rec (oV (Aax ops) (fun its=>Gh E call its f h K)) (fun _=>False) (Kn pls id)) (Bi5 E call pls id ops f h K) d
abbrev Qf:=Pos→FT→H→KX'→Prop
def Bdk(a b:Qf):Qf:=fun p f h K=>a (.l p) f h (A58 (b (.r p)) K)
def A2y(c:Operand)(a b:Qf):Qf:=fun p f h K=>asB (eval' E c f) (fun t=>Bool.rec (b (.r p) f h K) (a (.l p) f h K) t)
def Atb(id:Nat)(a:Qf):Qf:=fun p f h K=>a (.l p) f h (Alq id K)
def A2w(a:Qf):Qf:=fun p f h K=>a (.l p) f h (Au0 (fun f h=>enter cuts J p f h False) K)
def As9(c:Code)(a:Qf):Qf:=fun p f h K=>a (.l p) f h (Zt c (fun l f h=>enter cuts J (.lab p l) f h False) K)
def Bdl(id:Nat)(ops:List Oper)(d:Bool):Qf:=fun _ f h K=>Bdm E call pls id ops d f h (fun f h=>K .normal f h)
def Ata(g:Operand)(ps:Array Tmp)(as bd:Code):Qf:=fun _ f h K=>Qq E call ⟨ps.toList,as,bd,pls,nOf pls⟩ (eval' E g f) (Pd (Yk pls) f) h (fun x h=>Apc x (.normal::Bi7 (Aqb bd)) (fun y=>K y f h))
def Pv(a:Qf):Qf:=fun p f h K=>enter cuts J p f h (a p f h K)
def Lq(c:Code):Qf:=Code.rec (motive:=fun _=>Qf)
 (Pv cuts J (fun _ f h K=>K .normal f h)) (fun id ops d=>Pv cuts J (Bdl E call pls id ops.toList d)) (fun _ _ a b=>Pv cuts J (Bdk a b)) (fun c _ _ a b=>Pv cuts J (A2y E c a b)) (fun id _ a=>Pv cuts J (Atb id a)) (fun _ a=>Pv cuts J (A2w cuts J a))
 (fun g ps as bd _ _=>Pv cuts J (Ata E call pls g ps as bd)) (fun id=>Pv cuts J (fun _ f h K=>K (.exit id) f h)) (fun c a=>Pv cuts J (As9 cuts J c a)) (fun _=>Pv cuts J (fun _ f h K=>K .normal f h)) (fun l=>Pv cuts J (fun _ f h K=>K (.goto l) f h)) (Pv cuts J (fun _ f h K=>K .ret f h)) (fun _=>fun _ _ _ _=>False) c
def A2u(c:Code):Qf:=Code.rec (motive:=fun _=>Qf)
 (fun _ f h K=>K .normal f h) (fun id ops d=>Bdl E call pls id ops.toList d) (fun a b _ _=>Bdk (Lq E call pls cuts J a) (Lq E call pls cuts J b)) (fun c a b _ _=>A2y E c (Lq E call pls cuts J a) (Lq E call pls cuts J b)) (fun id a _=>Atb id (Lq E call pls cuts J a)) (fun a _=>A2w cuts J (Lq E call pls cuts J a))
 (fun g ps as bd _ _=>Ata E call pls g ps as bd) (fun id=>fun _ f h K=>K (.exit id) f h) (fun c _=>As9 cuts J c (Lq E call pls cuts J c)) (fun _=>fun _ f h K=>K .normal f h) (fun l=>fun _ f h K=>K (.goto l) f h) (fun _ f h K=>K .ret f h) (fun _=>fun _ _ _ _=>False) c
abbrev CK:=Option (Code×KX')
def ckL(p:Pos)(c:Code)(K:KX'):CK:=Code.rec (motive:=fun _=>CK) none (fun _ _ _=>none) (fun a b _ _=>some (a,A58 (Lq E call pls cuts J b (.r p)) K)) (fun _ a _ _ _=>some (a,K)) (fun id a _=>some (a,Alq id K))
 (fun a _=>some (a,Au0 (fun f h=>enter cuts J p f h False) K)) (fun _ _ _ _ _ _=>none) (fun _=>none) (fun a _=>some (a,Zt a (fun l f h=>enter cuts J (.lab p l) f h False) K)) (fun _=>none) (fun _=>none) none (fun _=>none) c
def ckR(c:Code)(K:KX'):CK:=Code.rec (motive:=fun _=>CK) none (fun _ _ _=>none) (fun _ b _ _=>some (b,K)) (fun _ _ b _ _=>some (b,K)) (fun _ _ _=>none)
 (fun _ _=>none) (fun _ _ _ _ _ _=>none) (fun _=>none) (fun _ _=>none) (fun _=>none) (fun _=>none) none (fun _=>none) c
def A3u(p:Pos)(n:Nat)(c:Code)(K:KX'):CK:=Code.rec (motive:=fun _=>CK) none (fun _ _ _=>none) (fun _ _ _ _=>none) (fun _ _ _ _ _=>none) (fun _ _ _=>none)
 (fun _ _=>none) (fun _ _ _ _ _ _=>none) (fun _=>none) (fun a _=>Option.rec none (fun r=>some (r,Zt a (fun l f h=>enter cuts J (.lab p l) f h False) K)) (findLabel a n)) (fun _=>none) (fun _=>none) none (fun _=>none) c
def Vs(c0:Code)(K0:KX')(p:Pos):CK:=Pos.rec (some (c0,K0))
 (fun p ih=>Option.rec none (fun q=>ckL E call pls cuts J p q.1 q.2) ih) (fun _ ih=>Option.rec none (fun q=>ckR q.1 q.2) ih) (fun p n ih=>Option.rec none (fun q=>A3u cuts J p n q.1 q.2) ih) p
def Il(c0:Code)(K0:KX')(p:Pos)(f:FT)(h:H):Prop:=Option.rec False (fun q=>A2u E call pls cuts J q.1 p f h q.2) (Vs E call pls cuts J c0 K0 p)
def noJ:Jump:=fun _ _ _=>False
def Ach(l:P)(k:KV):KX':=fun x _ h=>Xi (h.at l) (fun f s _ _=>AX.rec (h.Kl l (.loop f s .ready .normal) (fun h=>k (.bool true) h)) (fun id=>h.Kl l (.loop f s .done (.exit id)) (fun h=>k (.bool false) h))
 (fun t=>h.Kl l (.loop f s .done (.goto t)) (fun h=>k (.bool false) h)) (h.Kl l (.loop f s .done .ret) (fun h=>k (.bool false) h)) x)
def Auw(l:P)(s:LpS)(k:KV):KX':=fun x f h=>AX.rec (Xi (h.at l) (fun f' s' st pd=>Bool.rec As (h.Kl l (.loop f' s' .busy pd) (fun h=>Lq E call s.pls [] noJ s.body .root f h (Ach l k))) (isReady st))) (fun _=>False) (fun _=>False) False x
def Zi(chk:LpS→Bool)(l:P)(args:List AV)(h:H)(k:KV):Prop:=Xi (h.at l) (fun f s _ _=>Bool.rec As (Lq E call s.pls [] noJ s.assign .root (Uh s.params args f) h (Auw E call l s k)) (An (chk s) (Nat.beq (len args) (len s.params))))
def Tc(chk:LpS→Bool)(n:Nat)(args:List AV)(h:H)(k:KV):Prop:=Bool.rec As (Zi E call chk (pFs n n) args h k) (Nat.beq (P.nat (pFs n n)) n)
def A6c(f:FT)(h:H)(r:ResultVar)(k:AV→Prop):Prop:=ResultVar.rec (fun t=>k (f t)) (fun a t=>Adc E t (f a) h k) r
def Ac0(f:FT)(h:H)(rs:List ResultVar):(List AV→Prop)→Prop:=List.rec (motive:=fun _=>(List AV→Prop)→Prop) (fun k=>k []) (fun r _ ih k=>A6c E f h r (fun v=>ih (fun l=>k (v::l)))) rs
def Ahb(l:List AV):AV:=List.rec (.tuple []) (fun v r _=>List.rec v (fun _ _ _=>.tuple (v::r)) r) l
def Cr(rs:List ResultVar)(k:KV):KX':=fun x f h=>AX.rec (Ac0 E f h rs (fun l=>k (Ahb l) h)) (fun _=>False) (fun _=>False) (Ac0 E f h rs (fun l=>k (Ahb l) h)) x
end
end Go.Den
namespace Go.Den
open Go.RowKit
theorem Gp(n:Int)(K:Int→Prop):fI n K=K n:=by cases n<;>rfl
theorem Ep:¬As:=fun h=>h
theorem Ap4{a b:IntKind}(h:Aft a b=true):a=b:=by cases a<;>cases b<;>first|rfl|cases h
theorem Si{k:IntKind}{v:AV}{K:Int→Prop}(h:asI k v K):∃n,v=.int k n∧K n:=by
 cases v<;>try exact(Ep h).elim
 rename_i j n
 have h:(Bool.rec As (K n) (Aft k j):Prop):=h
 cases hk:Aft k j with
 |false=>rw[hk] at h;exact(Ep h).elim
 |true=>rw[hk] at h;cases Ap4 hk;exact⟨n,rfl,by assumption⟩
theorem Vx{v:AV}{K:Int→Prop}(h:Asg v K):∃k n,v=.int k n∧K n:=by
 cases v<;>first|exact(Ep h).elim|exact⟨_,_,rfl,h⟩
theorem Gx{v:AV}{K:Bool→Prop}(h:asB v K):∃b,v=.bool b∧K b:=by
 cases v<;>first|exact(Ep h).elim|exact⟨_,rfl,h⟩
theorem Lb{v:AV}{K:Nat→Nat→Prop}(h:asS v K):∃l c,v=.str l c∧K l c:=by
 cases v<;>first|exact(Ep h).elim|exact⟨_,_,rfl,h⟩
theorem Mr{v:AV}{K:P→Nat→Prop}(h:asP v K):∃b o,v=.ptr b o∧K b o:=by
 cases v<;>first|exact(Ep h).elim|exact⟨_,_,rfl,h⟩
theorem Vy{v:AV}{K:List AV→Prop}(h:asG v K):∃cs,v=.agg cs∧K cs:=by
 cases v<;>first|exact(Ep h).elim|exact⟨_,rfl,h⟩
theorem Aqy{v:AV}{K:List AV→Prop}(h:asT v K):∃cs,v=.tuple cs∧K cs:=by
 cases v<;>first|exact(Ep h).elim|exact⟨_,rfl,h⟩
theorem Ayd{v:AV}{K:Fn→List AV→List AV→Prop}(h:Bbh v K):∃fn a c,v=.func fn a c∧K fn a c:=by
 cases v<;>first|exact(Ep h).elim|exact⟨_,_,_,rfl,h⟩
theorem Vw{o:Ob FT}{K:(Nat→AV)→LpS→LoopState→AX→Prop}(h:Xi o K):∃f s st pd,o=.loop f s st pd∧K f s st pd:=by
 cases o<;>first|exact(Ep h).elim|exact⟨_,_,_,_,rfl,h⟩
theorem Apg{v:AV}{K:Prop}(h:one v K):v.one=true∧v.cells=[v]∧K:=by
 cases v<;>first|exact(Ep h).elim|exact⟨rfl,rfl,h⟩
theorem Ol{α:Type}{o:Option α}{K:α→Prop}(h:oV o K):∃v,o=some v∧K v:=by
 cases o with
 |none=>exact h.elim
 |some v=>exact⟨v,rfl,h⟩
theorem Ng{n:Int}{K:Nat→Prop}(h:Ce n K):∃m,n=Int.ofNat m∧K m:=by
 cases n with
 |ofNat m=>exact⟨m,rfl,h⟩
 |negSucc m=>exact h.elim
theorem Aap{v:AV}{K:Nat→Prop}(h:Akn v K):∃m,Bp v=some m∧K m:=by
 obtain⟨k,n,rfl,h⟩:=Vx h
 obtain⟨m,rfl,h⟩:=Ng h
 exact⟨m,rfl,h⟩
theorem Yr{c:Bool}{K:Prop}(h:(Bool.rec False K c:Prop)):c=true∧K:=by
 cases c with
 |false=>exact h.elim
 |true=>exact⟨rfl,h⟩
theorem Fq{c:Bool}{K:Prop}(h:(Bool.rec As K c:Prop)):c=true∧K:=by
 cases c with
 |false=>exact(Ep h).elim
 |true=>exact⟨rfl,h⟩
theorem Ah5{c:Bool}{K:Prop}(h:(Bool.rec K False c:Prop)):c=false∧K:=by
 cases c with
 |true=>exact h.elim
 |false=>exact⟨rfl,h⟩
theorem Au3{v:AV}{K:Nat→Prop}(h:Cz v K):(v=.Ai∧K 0)∨∃b o n z t,v=.slice b o n z t∧K n:=by
 cases v<;>first|exact(Ep h).elim|exact .inl ⟨rfl,h⟩|exact .inr ⟨_,_,_,_,_,rfl,h⟩
theorem Ary{sz i:Nat}{v:AV}{K:AV→Prop}(h:Cc sz i v K):∃b o n t,v=.slice b o n sz t∧Nat.ble (Nat.add i 1) n=true∧K (.ptr b (Nat.add o (Nat.mul i sz))):=by
 cases v<;>try exact(Ep h).elim
 rename_i b o n z t
 obtain⟨hc,h⟩:=Fq (show(Bool.rec As (fN (Nat.add o (Nat.mul i sz)) (fun q=>K (.ptr b q))) (An (Nat.ble (Nat.add i 1) n) (Nat.beq sz z)):Prop) from h)
 obtain⟨h1,h2⟩:=Al hc
 have e:=Bo h2
 subst e
 exact⟨b,o,n,t,rfl,h1,by assumption⟩
theorem Bea(E:Env)(k:KV)(o:Option (AV×H)):oK o k=Dz (CP E) k o:=rfl
theorem Ad(k:KV)(v:AV)(h:H):oK (some (v,h)) k=k v h:=by
 obtain⟨m,n⟩:=h
 show Cj v (fun v=>Ks m (fun m=>k v ⟨m,n⟩))=_
 rw[Ch,Jr]
theorem Auo{k:KV}{o:Option (AV×H)}(h:oK o k):∃v h',o=some (v,h')∧k v h':=by
 cases o with
 |none=>exact h.elim
 |some p=>obtain⟨v,h'⟩:=p;rw[Ad] at h;exact⟨v,h',rfl,h⟩
section
variable{E:Env}
theorem A1z{d:TypeDesc}{v:AV}{K:AV→Prop}(h:coD d v K):K v:=by
 unfold coD at h
 split at h
 · obtain⟨n,rfl,h2⟩:=Si h;exact h2
 · obtain⟨b,rfl,h2⟩:=Gx h;exact h2
 · obtain⟨l,c,rfl,h2⟩:=Lb h;exact h2
 · exact h
theorem Vt{t:TypeId}{v:AV}{K:AV→Prop}(h:coK E t v K):K v:=by
 unfold coK at h
 split at h
 · exact A1z h
 · exact h
theorem Abp{op:BinOp}{k:IntKind}{a b:Int}{g:Nat→Nat→Nat}(hg:∀x y,Ajm op k x y=some (.int k (.ofNat (g x y)))){K:AV→Prop}(h:Axz g k a b (fun n=>K (.int k n))):∃v,Ajl op k a b=some v∧K v:=by
 obtain⟨x,rfl,h⟩:=Ng h
 obtain⟨y,rfl,h⟩:=Ng h
 obtain⟨hc,h⟩:=Yr h
 refine⟨_,?_,h⟩
 show(Bool.rec none (Ajm op k x y) (An (Nat.ble x (intMax k)) (Nat.ble y (intMax k))):Option AV)=_
 rw[hc,hg]
theorem Ax6{op:BinOp}{k:IntKind}{a b:Int}{K:AV→Prop}(h:bI op k a b K):∃v,Abq op k a b=some v∧K v:=by
 cases op<;>simp only[bI] at h
 case add=>rw[Gp] at h;exact⟨_,rfl,h⟩
 case sub=>rw[Gp] at h;exact⟨_,rfl,h⟩
 case mul=>rw[Gp] at h;exact⟨_,rfl,h⟩
 case quo=>
  obtain⟨hc,h⟩:=Ah5 h
  rw[Gp] at h
  refine⟨_,?_,h⟩
  show A8l k a b=_
  unfold A8l;rw[hc];rfl
 case rem=>
  obtain⟨hc,h⟩:=Ah5 h
  rw[Gp] at h
  refine⟨_,?_,h⟩
  show A8h k a b=_
  unfold A8h;rw[hc]
 case and=>exact Abp (fun _ _=>rfl) h
 case or=>exact Abp (fun _ _=>rfl) h
 case xor=>exact Abp (fun _ _=>rfl) h
 case shl=>
  obtain⟨m,rfl,h2⟩:=Ng h
  rw[Gp] at h2
  exact⟨_,rfl,h2⟩
 case shr=>
  obtain⟨m,rfl,h2⟩:=Ng h
  rw[Gp] at h2
  exact⟨_,rfl,h2⟩
 case eql=>exact⟨_,rfl,h⟩
 case neq=>exact⟨_,rfl,h⟩
 case lss=>exact⟨_,rfl,h⟩
 case leq=>exact⟨_,rfl,h⟩
 case gtr=>exact⟨_,rfl,h⟩
 case geq=>exact⟨_,rfl,h⟩
theorem Bbe{op:BinOp}{l c m d:Nat}{K:AV→Prop}(h:bS op l c m d K):∃v,Agt op l c m d=some v∧K v:=by
 cases op<;>simp only[bS] at h
 case add=>
  obtain⟨hc,h⟩:=Yr h
  refine⟨_,?_,h⟩
  show(Bool.rec none _ (Nat.ble (Nat.add l m) (intMax .i64)):Option AV)=_
  rw[hc]
 all_goals exact⟨_,rfl,h⟩
theorem Ax1{op:BinOp}{t:TypeId}{x y:AV}{K:AV→Prop}(h:Ax2 E op t x y K):∃v,Hh E op t x y=some v∧K v:=by
 unfold Ax2 at h
 split at h
 · unfold Bbb at h
   split at h
   · obtain⟨a,rfl,h2⟩:=Si h
     clear h
     unfold Bbg at h2
     rename_i k _
     cases hs:Apz op with
     |true=>
      rw[hs] at h2
      obtain⟨j,b,rfl,h3⟩:=Vx h2
      obtain⟨v,hv,h4⟩:=Ax6 h3
      refine⟨v,?_,h4⟩
      show(Bool.rec none (Abq op k a b) (sameKind op k j):Option AV)=_
      have:sameKind op k j=true:=by cases op<;>first|rfl|cases hs
      rw[this];exact hv
     |false=>
      rw[hs] at h2
      obtain⟨b,rfl,h3⟩:=Si h2
      obtain⟨v,hv,h4⟩:=Ax6 h3
      refine⟨v,?_,h4⟩
      show(Bool.rec none (Abq op k a b) (sameKind op k k):Option AV)=_
      have:sameKind op k k=true:=by cases op<;>first|rfl|exact decide_eq_true rfl
      rw[this];exact hv
   · obtain⟨l,c,rfl,h2⟩:=Lb h
     obtain⟨m,d,rfl,h3⟩:=Lb h2
     obtain⟨v,hv,h4⟩:=Bbe h3
     exact⟨v,hv,h4⟩
   · exact Ol h
 · exact h.elim
theorem Ax0{op:BinOp}{t:TypeId}{ox oy:Operand}{x y:AV}{K:AV→Prop}(h:Asb E op t ox oy x y K):∃v,Ajn E op t ox oy x y=some v∧K v:=by
 unfold Asb at h
 unfold Ajn
 cases ha:Alu E op t ox oy with
 |false=>rw[ha] at h;exact Ax1 h
 |true=>
  rw[ha] at h
  have h:oV (Alr E op t x y) K:=h
  show∃v,Alr E op t x y=some v∧K v
  cases hb:Alr E op t x y with
  |none=>rw[hb] at h;exact h.elim
  |some v=>rw[hb] at h;exact⟨v,rfl,h⟩
theorem Azc{op:UnOp}{x:AV}{K:AV→Prop}(h:un2 op x K):∃v,unA op x=some v∧K v:=by
 unfold un2 at h
 split at h
 · obtain⟨b,rfl,h2⟩:=Gx h
   refine⟨_,rfl,?_⟩
   cases b<;>exact h2
 · exact Ol h
end
end Go.Den
namespace Go.Den
open Go.RowKit
section
variable{E:Env}{call:CF}{f:FT}{h:H}{k:KV}
theorem Ie{o:Option (AV×H)}{v:AV}{h':H}(e:o=some (v,h'))(hk:k v h'):Dz (CP E) k o:=by
 rw[e,←Bea,Ad];exact hk
theorem Rg{l:List Operand}:Hv E f l=l.map fun x=>eval (CP E) x f:=by
 induction l with
 |nil=>rfl
 |cons x l ih=>show eval' E x f::Hv E f l=_;rw[ih];rfl
theorem Asj{e:TypeId}(hg:Aly E e h k):Dz (CP E) k (Za e (E.ty e) h):=by
 unfold Aly at hg
 split at hg
 · rename_i i hi
   rw[Mj] at hg
   refine Ie ?_ hg
   rw[hi];rfl
 · exact hg.elim
theorem Aig{t:TypeId}{a:AV}(hg:Adc E t a h (fun v=>k v h)):(Yg.rec False (fun b off=>Option.rec False (fun i=>Tn (CP E) h k b off i) (E.ty t)) (Tb a):Prop):=by
 unfold Adc at hg
 split at hg
 · rename_i i hi
   split at hg
   · rename_i ha
     obtain⟨b,o,rfl,hg⟩:=Mr hg
     show(Option.rec False (fun i=>Tn (CP E) h k b o i) (E.ty t):Prop)
     rw[hi]
     show(Bool.rec _ (h.Ix b o i.size False (fun l=>k (.agg l) h)) i.agg:Prop)
     rw[ha];exact hg
   · rename_i ha
     obtain⟨b,o,rfl,hg⟩:=Mr hg
     show(Option.rec False (fun i=>Tn (CP E) h k b o i) (E.ty t):Prop)
     rw[hi]
     show(Bool.rec (h.Ih b o False (fun v=>k v h)) _ i.agg:Prop)
     rw[ha];exact hg
 · exact hg.elim
theorem Ard{t:TypeId}{a v:AV}(hg:Aj6 E t a v h (fun h=>k .undef h)):(Yg.rec False (fun b off=>Option.rec False (fun i=>Cj v (fun v=>Od (CP E) h k b off v i)) (E.ty t)) (Tb a):Prop):=by
 unfold Aj6 at hg
 split at hg
 · rename_i i hi
   split at hg
   · obtain⟨b,o,rfl,hg⟩:=Mr hg
     obtain⟨cs,rfl,hg⟩:=Vy hg
     obtain⟨hc,hg⟩:=Fq hg
     show(Option.rec False (fun i=>Cj (.agg cs) (fun v=>Od (CP E) h k b o v i)) (E.ty t):Prop)
     rw[hi]
     show Cj (.agg cs) (fun v=>Od (CP E) h k b o v i)
     rw[Ch]
     show(Bool.rec False (h.Hw b o cs False (fun h=>k .undef h)) (An (Nat.beq (len cs) i.size) (Nat.ble 1 i.size)):Prop)
     rw[hc];exact hg
   · split at hg
     · rename_i hs
       obtain⟨b,o,rfl,hg⟩:=Mr hg
       obtain⟨h1,h2,hg⟩:=Apg hg
       show(Option.rec False (fun i=>Cj v (fun v=>Od (CP E) h k b o v i)) (E.ty t):Prop)
       rw[hi]
       show Cj v (fun v=>Od (CP E) h k b o v i)
       rw[Ch]
       show(Bool.rec False (h.Hw b o v.cells False (fun h=>k .undef h)) (An (Nat.beq (len v.cells) i.size) (Nat.ble 1 i.size)):Prop)
       rw[h2,Bo hs];exact hg
     · exact hg.elim
 · exact hg.elim
theorem Aqt{e:TypeId}{v:AV}(hg:A2c E e v h k):Cj v (fun v=>(Bool.rec False (h.Cs (rowOf e v.cells) (fun b h=>k (.ptr b 0) h)) (Nat.ble 1 (len v.cells)):Prop)):=by
 rw[Ch]
 unfold A2c at hg
 split at hg
 · split at hg
   · obtain⟨cs,rfl,hg⟩:=Vy hg
     exact hg
   · obtain⟨h1,h2,hg⟩:=Apg hg
     rw[h2];exact hg
 · exact hg.elim
theorem Ak5{t:TypeId}{x:AV}{i:Nat}(hg:Vf E t x i (fun v=>k v h)):(Yg.rec False (fun b off=>Option.rec False (fun o=>k (.ptr b (Nat.add off o)) h) (Wz E t i)) (Tb x):Prop):=by
 unfold Vf at hg
 split at hg
 · rename_i o ho
   obtain⟨b,q,rfl,hg⟩:=Mr hg
   show(Option.rec False (fun o=>k (.ptr b (Nat.add q o)) h) (Wz E t i):Prop)
   rw[ho];exact hg
 · exact hg.elim
theorem Arx{t:TypeId}{x:AV}{i:Nat}(hg:Aa7 E t x i (fun v=>k v h)):Dz (CP E) k (Sa E t x i h):=by
 unfold Aa7 at hg
 split at hg
 · rename_i p hp
   unfold Ap7 at hp
   split at hp<;>try cases hp
   rename_i ti hti
   split at hp<;>try cases hp
   rename_i fs hfs
   split at hp<;>try cases hp
   rename_i q hq
   split at hp<;>cases hp
   rename_i fi hfi
   have key:∀cs r,part E q.2 cs q.1=some r→Sa E t (.agg cs) i h=some (r,h):=fun cs r hr=>by
    show(Option.rec none (fun ti=>match ti.desc with
     |.struct fs=>Option.rec none (fun p=>Fm h (part E p.2 cs p.1)) (Nk fs.toList i)
     |_=>none) (E.ty t):Option (AV×H))=_
    rw[hti]
    simp only[hfs,hq]
    show Fm h (part E q.2 cs q.1)=_
    rw[hr];rfl
   split at hg
   · rename_i ha
     have ha:fi.agg=true:=ha
     obtain⟨cs,rfl,hg2⟩:=Vy hg
     refine Ie (key cs (.agg (Ln fi.size (Qa q.1 cs))) ?_) hg2
     show(Option.rec none (fun i=>Bool.rec (Ej cs q.1) (some (.agg (Ln i.size (Qa q.1 cs)))) i.agg) (E.ty q.2):Option AV)=_
     rw[hfi]
     show(Bool.rec (Ej cs q.1) (some (.agg (Ln fi.size (Qa q.1 cs)))) fi.agg:Option AV)=_
     rw[ha]
   · rename_i ha
     have ha:fi.agg=false:=ha
     obtain⟨cs,rfl,hg2⟩:=Vy hg
     obtain⟨v,hv,hg3⟩:=Ol hg2
     refine Ie (key cs v ?_) hg3
     show(Option.rec none (fun i=>Bool.rec (Ej cs q.1) (some (.agg (Ln i.size (Qa q.1 cs)))) i.agg) (E.ty q.2):Option AV)=_
     rw[hfi]
     show(Bool.rec (Ej cs q.1) (some (.agg (Ln fi.size (Qa q.1 cs)))) fi.agg:Option AV)=_
     rw[ha];exact hv
 · exact hg.elim
theorem Aky{t:TypeId}{x i:AV}(hg:Ml E t x i h k):Dz (CP E) k (Gf E t x (Bp i) h):=by
 unfold Ml at hg
 split at hg
 · rename_i e he
   split at hg
   · rename_i ei hei
     obtain⟨m,hm,hg⟩:=Aap hg
     obtain⟨b,o,n,q,rfl,h1,hg⟩:=Ary hg
     refine Ie ?_ hg
     rw[hm]
     show Rz E t b o n ei.size m h=_
     unfold Rz Ap
     rw[he]
     show(Option.rec none (fun ti=>Bool.rec none _ _) (E.ty e):Option (AV×H))=_
     rw[hei]
     show(Bool.rec none (some (.ptr b (Nat.add o (Nat.mul m ei.size)),h)) (An (Nat.ble (Nat.add m 1) n) (Nat.beq ei.size ei.size)):Option (AV×H))=_
     rw[h1,Nat.beq_refl];rfl
   · exact hg.elim
 · exact hg
theorem Ars{t:TypeId}{x i:AV}(hg:Ra E t x i h k):Dz (CP E) k (Mo E t x (Bp i) h):=by
 unfold Ra at hg
 split at hg
 · rename_i ti hti
   split at hg
   · rename_i hs
     obtain⟨l,c,rfl,hg⟩:=Lb hg
     obtain⟨m,hm,hg⟩:=Aap hg
     obtain⟨hc,hg⟩:=Yr hg
     refine Ie ?_ hg
     rw[hm]
     show(Option.rec none (fun ti=>Bool.rec none (Bool.rec none (some (.int .u8 (.ofNat (Fw c m)),h)) (Nat.ble (Nat.add m 1) l)) (isStr ti.desc)) (E.ty t):Option (AV×H))=_
     rw[hti]
     show(Bool.rec none (Bool.rec none (some (.int .u8 (.ofNat (Fw c m)),h)) (Nat.ble (Nat.add m 1) l)) (isStr ti.desc):Option (AV×H))=_
     rw[hs,hc]
   · exact hg
 · exact hg.elim
theorem A8z{i:Nat}{x:AV}(hg:ext i x (fun v=>k v h)):Dz (CP E) k (Nn x i h):=by
 obtain⟨cs,rfl,hg⟩:=Aqy hg
 obtain⟨v,hv,hg⟩:=Ol hg
 refine Ie ?_ hg
 show Fm h (Ej cs i)=_
 rw[hv];rfl
theorem A01{ats:List TypeId}{x:AV}(hg:Arq E ats x h k):Dz (CP E) k (Qc E ats x h):=by
 unfold Arq at hg
 split at hg
 · rename_i t ht
   split at hg
   · rename_i ti hti
     have e:Qc E ats x h=Au4 E ti.desc x h:=by
      unfold Qc;rw[ht]
      show(Option.rec none (fun ti=>Au4 E ti.desc x h) (E.ty t):Option (AV×H))=_
      rw[hti]
     unfold Ail at hg
     split at hg
     · rename_i hd
       obtain⟨l,c,rfl,hg2⟩:=Lb hg
       exact Ie (e.trans (by rw[hd];rfl)) hg2
     · rename_i hd
       rcases Au3 hg with⟨rfl,hg2⟩|⟨b,o,n,z,q,rfl,hg2⟩
       · exact Ie (e.trans (by rw[hd];rfl)) hg2
       · exact Ie (e.trans (by rw[hd];rfl)) hg2
     · exact hg
   · exact hg.elim
 · exact hg.elim
theorem Ajj{b:Builtin}{ats:List TypeId}{args:List AV}(hg:Kg E b ats args h k):Dz (CP E) k (Ar E b ats args h):=by
 unfold Kg at hg
 split at hg
 · split at hg
   · exact A01 hg
   · exact hg.elim
 · exact hg
theorem Aw0{s d:TypeId}{x:AV}(hg:Vq E s d x h k):Dz (CP E) k (Ia E h s d x):=by
 unfold Vq at hg
 split at hg
 · rename_i ti hti
   unfold Abc at hg
   split at hg
   · rename_i kd hd
     split at hg
     · obtain⟨j,n,rfl,hg2⟩:=Vx hg
       rw[Gp] at hg2
       refine Ie ?_ hg2
       unfold Ia;rw[hti]
       show Aql E h s ti.desc (.int j n)=_
       rw[hd];rfl
     · exact hg
   · exact hg
 · exact hg.elim
theorem Ajk{o:Option AV}{d:Nat}{K:Nat→Prop}(hg:Ar8 o d K):∃n,bound d (o.map Bp)=some n∧K n:=by
 cases o with
 |none=>exact⟨d,rfl,hg⟩
 |some v=>obtain⟨m,hm,hg⟩:=Aap hg;exact⟨m,hm,hg⟩
theorem Xb{o:Option Operand}:Rf (CP E) f o=(o.map fun x=>eval' E x f).map Bp:=by cases o<;>rfl
theorem Ari{t:TypeId}{x:AV}{lo hi mx:Option AV}(hg:Mt E t x lo hi mx h k):
 Dz (CP E) k (Option.rec none (fun m=>Fm h (Kk E h t x (lo.map Bp) (hi.map Bp) m)) (maxOf (mx.map Bp))):=by
 unfold Mt at hg
 split at hg
 · rename_i ti hti
   split at hg
   · rename_i hs
     split at hg
     · obtain⟨l,c,rfl,hg⟩:=Lb hg
       obtain⟨n,hn,hg⟩:=Ajk hg
       obtain⟨m,hm,hg⟩:=Ajk hg
       obtain⟨hc,hg⟩:=Yr hg
       refine Ie ?_ hg
       show Fm h (Kk E h t (.str l c) (lo.map Bp) (hi.map Bp) none)=_
       have hd:ti.desc=.string:=by
        cases hdd:ti.desc<;>rw[hdd] at hs<;>first|rfl|cases hs
       unfold Kk
       rw[hti]
       show Fm h (Zr E h ti.desc (.str l c) (lo.map Bp) (hi.map Bp) none)=_
       rw[hd]
       show Fm h (Ig l (lo.map Bp) (hi.map Bp) (fun lo h=>Ala c l lo h))=_
       unfold Ig
       rw[hn]
       show Fm h (Option.rec none (fun lo=>Ala c l lo n) (bound 0 (lo.map Bp)))=_
       rw[hm]
       show Fm h (Bool.rec none (some (.str (Nat.sub n m) (Wi c m n))) (An (Nat.ble m n) (Nat.ble n l)))=_
       rw[hc];rfl
     · exact hg.elim
   · exact hg
 · exact hg.elim
theorem Ah9{t:TypeId}{x:AV}(hg:Aaq E t x h k):Dz (CP E) k (Nl E t x h):=by
 unfold Aaq at hg
 split at hg
 · rename_i ti hti
   split at hg
   · exact hg.elim
   · rename_i hi
     refine Ie ?_ hg
     unfold Nl;rw[hti]
     show(Bool.rec (some (.iface t x,h)) none (isIface ti.desc):Option (AV×H))=_
     rw[hi]
 · exact hg.elim
theorem Aa8{o:Op}(hg:Ea E o call f h k):exec o (CP E) call f h k:=by
 cases o
 case move x=>show Cj (eval (CP E) x f) (fun v=>k v h);rw[Ch];exact hg
 case assign x=>show Cj (eval (CP E) x f) (fun v=>k v h);rw[Ch];exact hg
 case alloc e=>exact Asj hg
 case box e x=>exact Aqt hg
 case load t a=>exact Aig hg
 case store t a x=>exact Ard hg
 case binOp op t x y q=>
  obtain⟨v,hv,hg⟩:=Ax0 (show Asb E op t x y (eval' E x f) (eval' E y f) (fun v=>k v h) from hg)
  show(Option.rec False (fun v=>k v h) (Ajn E op t x y (eval (CP E) x f) (eval (CP E) y f)):Prop)
  have hv:Ajn E op t x y (eval (CP E) x f) (eval (CP E) y f)=some v:=hv
  rw[hv];exact hg
 case unOp op t x=>
  obtain⟨v,hv,hg⟩:=Azc (show un2 op (eval' E x f) (fun v=>k v h) from hg)
  show(Option.rec False (fun v=>k v h) (unA op (eval (CP E) x f)):Prop)
  have hv:unA op (eval (CP E) x f)=some v:=hv
  rw[hv];exact hg
 case convert s d x=>exact Aw0 hg
 case makeInterface t x=>exact Ah9 hg
 case slice t x lo hi mx=>
  have:=Ari (show Mt E t (eval' E x f) (lo.map (fun x=>eval' E x f)) (hi.map (fun x=>eval' E x f)) (mx.map (fun x=>eval' E x f)) h k from hg)
  show Dz (CP E) k (Option.rec none (fun m=>Fm h (Kk E h t (eval (CP E) x f) (Rf (CP E) f lo) (Rf (CP E) f hi) m)) (maxOf (Rf (CP E) f mx)))
  rw[Xb,Xb,Xb];exact this
 case fieldAddr t x i=>exact Ak5 hg
 case field t x i=>exact Arx hg
 case indexAddr t x i=>exact Aky hg
 case index t x i=>exact Ars hg
 case extract x i=>exact A8z hg
 case makeFunc fn a b=>
  have hg:k (.func fn (Hv E f a.toList) (Hv E f b.toList)) h:=hg
  refine Eq.mpr (Gr (C:=CP E) (f:=f) a.toList _) ?_
  refine Eq.mpr (Gr (C:=CP E) (f:=f) b.toList _) ?_
  show k (.func fn (a.toList.map fun x=>eval (CP E) x f) (b.toList.map fun x=>eval (CP E) x f)) h
  rw[show(a.toList.map fun x=>eval (CP E) x f)=Hv E f a.toList from Rg.symm,show(b.toList.map fun x=>eval (CP E) x f)=Hv E f b.toList from Rg.symm];exact hg
 case call c=>
  obtain⟨callee,args,ats⟩:=c
  cases callee with
  |invoke v name=>
   have hg:Adu (CP E) call (eval (CP E) v f) name (Hv E f args.toList) h k:=hg
   show Ik (CP E) f args.toList (fun l=>Adu (CP E) call (eval (CP E) v f) name l h k)
   refine Eq.mpr (Gr (C:=CP E) (f:=f) args.toList _) ?_
   show Adu (CP E) call (eval (CP E) v f) name (args.toList.map fun x=>eval (CP E) x f) h k
   rw[show(args.toList.map fun x=>eval (CP E) x f)=Hv E f args.toList from Rg.symm];exact hg
  |builtin b=>
   have hg:Kg E b ats.toList (Hv E f args.toList) h k:=hg
   have:=Ajj hg
   show Ik (CP E) f args.toList (fun l=>Dz (CP E) k (Ar E b ats.toList l h))
   refine Eq.mpr (Gr (C:=CP E) (f:=f) args.toList _) ?_
   show oK (Ar E b ats.toList (args.toList.map fun x=>eval (CP E) x f) h) k
   rw[show(args.toList.map fun x=>eval (CP E) x f)=Hv E f args.toList from Rg.symm];exact this
  |value v=>
   have hg:Mq (CP E) call (eval (CP E) v f) (Hv E f args.toList) h k:=hg
   show Ik (CP E) f args.toList (fun l=>Mq (CP E) call (eval (CP E) v f) l h k)
   refine Eq.mpr (Gr (C:=CP E) (f:=f) args.toList _) ?_
   show Mq (CP E) call (eval (CP E) v f) (args.toList.map fun x=>eval (CP E) x f) h k
   rw[show(args.toList.map fun x=>eval (CP E) x f)=Hv E f args.toList from Rg.symm];exact hg
 all_goals exact hg
end
end Go.Den
namespace Go.Den
open Go.RowKit
theorem Ayb{o:Ob FT}{K:P→Nat→List Nat→Nat→Prop}(h:Bj2 o K):∃m a b c,o=.Pz m a b c∧K m a b c:=by
 cases o<;>first|exact(Ep h).elim|exact⟨_,_,_,_,rfl,h⟩
theorem Adp{K:Ent→Prop}:∀{l:List Ent},Aqm K l→∀e∈l,K e
 |[],_,e,he=>by cases he
 |[a],h,e,he=>by rw[List.mem_singleton.1 he];exact h
 |a::b::l,h,e,he=>by
  obtain⟨h1,h2⟩:=(show And (K a) (Aqm K (b::l)) from h)
  rcases List.mem_cons.1 he with rfl|he
  · exact h1
  · exact Adp h2 e he
theorem A0q(n:Nat):∀l:List Nat,Aib n l=l.toArray.contains n:=by
 intro l
 have key:Aib n l=true↔n∈l:=by
  induction l with
  |nil=>simp[Aib]
  |cons x l ih=>
   have h:Aib n (x::l)=(Bool.rec (Aib n l) true (Nat.beq x n):Bool):=rfl
   rw[h,Gt]
   by_cases e:x=n
   · rw[decide_eq_true e];simp[e]
   · rw[decide_eq_false e]
     show Aib n l=true↔_
     rw[ih];simp[Ne.symm e]
 rw[Bool.eq_iff_iff,key]
 simp
theorem Afo{μ:Mu}(seen:List Nat):∀{es:List Ent}{xs:List MapEntry},EsR μ es xs→EsR μ (leftOf seen es) (xs.filter fun e=>!seen.toArray.contains e.born)
 |[],_,h=>by cases(show _=[] from h);exact(rfl:([]:List MapEntry)=[])
 |a::es,_,⟨x,xs,e,h1,h2,h3,h4⟩=>by
  subst e
  have h:leftOf seen (a::es)=(Bool.rec (a::leftOf seen es) (leftOf seen es) (Aib a.2.2 seen):List Ent):=rfl
  rw[h,A0q,h3,List.filter_cons]
  cases seen.toArray.contains x.born with
  |true=>exact Afo seen h4
  |false=>exact⟨x,_,rfl,h1,h2,h3,Afo seen h4⟩
theorem Ady{μ:Mu}{since:Nat}:∀{es:List Ent}{xs:List MapEntry},EsR μ es xs→Alz since es=true→∀x∈xs,x.born<since
 |[],_,h,_,x,hx=>by cases(show _=[] from h);cases hx
 |a::es,_,⟨y,xs,e,h1,h2,h3,h4⟩,ha,x,hx=>by
  subst e
  have ha:(Bool.rec false (Alz since es) (Nat.ble (Nat.add a.2.2 1) since):Bool)=true:=ha
  cases hb:Nat.ble (Nat.add a.2.2 1) since with
  |false=>rw[hb] at ha;cases ha
  |true=>
   rw[hb] at ha
   rcases List.mem_cons.1 hx with rfl|hx
   · have:a.2.2+1≤since:=Bu hb
     rw[h3] at this;exact this
   · exact Ady h4 ha x hx
theorem Adw{μ:Mu}{n:Nat}:∀{es:List Ent}{xs:List MapEntry},EsR μ es xs→Agz n es=true→∃x∈xs,x.born<n
 |[],_,_,h=>by cases h
 |a::es,_,⟨y,xs,e,h1,h2,h3,h4⟩,ha=>by
  subst e
  have ha:(Bool.rec (Agz n es) true (Nat.ble (Nat.add a.2.2 1) n):Bool)=true:=ha
  cases hb:Nat.ble (Nat.add a.2.2 1) n with
  |true=>
   have:a.2.2+1≤n:=Bu hb
   rw[h3] at this
   exact⟨y,by simp,this⟩
  |false=>
   rw[hb] at ha
   obtain⟨x,hx,hl⟩:=Adw h4 ha
   exact⟨x,by simp[hx],hl⟩
theorem EsR.mem{μ:Mu}:∀{es:List Ent}{xs:List MapEntry},EsR μ es xs→∀x∈xs,∃e∈es,VR μ e.1 x.key∧VR μ e.2.1 x.val∧e.2.2=x.born
 |[],_,h,x,hx=>by cases(show _=[] from h);cases hx
 |a::es,_,⟨y,xs,e,h1,h2,h3,h4⟩,x,hx=>by
  subst e
  rcases List.mem_cons.1 hx with rfl|hx
  · exact⟨a,by simp,h1,h2,h3⟩
  · obtain⟨e,he,hh⟩:=EsR.mem h4 x hx
    exact⟨e,by simp[he],hh⟩
theorem Acw{P:Program}{w:World}(n:Nat)(hn:0<n):∃i w',(choose (.mapNext n)).run P w=.ok i w'∧i<n∧w'.heap=w.heap∧w'.os=w.os∧w'.tape=w.tape∧w'.output=w.output:=by
 rw[run_choose]
 by_cases h:n≤1
 · exact⟨0,w,by rw[if_pos (by simpa[Question.forced] using h)],hn,rfl,rfl,rfl,rfl⟩
 · exact⟨(Question.mapNext n).cut (w.tape w.drawn (.mapNext n)),{ w with drawn:=w.drawn+1 },by rw[if_neg (by simpa[Question.forced] using h)],Nat.mod_lt _ hn,rfl,rfl,rfl,rfl⟩
theorem Auq{P:Program}{μ:Mu}{h:H}{w:World}(s:Sim μ h w){it:AV}{k:KV}(hg:Aur it h k){vx:Value}{ty:TypeId}(hx:VR μ it vx):
 ∃v w' μ' av h',(Instr.next vx false ty).run P w=.ok v w'∧Sim μ' h' w'∧Dc μ h w μ' h' w'∧VR μ' av v∧k av h':=by
 obtain⟨b,o,rfl,hg⟩:=Mr hg
 obtain⟨ho,hg⟩:=Fq hg
 obtain rfl:=Bo ho
 obtain⟨m,since,seen,stepped,hat,hg⟩:=Ayb hg
 obtain⟨p,hp,hg⟩:=Ol hg
 obtain⟨hc,hg⟩:=Fq hg
 obtain⟨hold,hstep⟩:=Al hc
 obtain⟨l,hl,rfl⟩:=hx
 have hob:=s.ob b l (by rw[hat];simp) hl
 rw[hat] at hob
 obtain⟨lm,hlm,hblk,hoff⟩:=hob
 have hatm:h.at m=.map p.1 p.2:=Lw hp
 have hobm:=s.ob m lm (by rw[hatm];simp) hlm
 rw[hatm] at hobm
 obtain⟨xs,hblkm,hes⟩:=hobm
 have hleft:=Afo seen hes
 have hall:=Ady hleft hold
 have hg:(List.rec (k (.tuple [.bool false]) h) (fun e r _=>Aqm (fun e=>h.Kl b (.Pz m since (Jh seen [e.2.2]) p.2) (fun h=>k (.tuple [.bool true,e.1,e.2.1]) h)) (e::r)) (leftOf seen p.1):Prop):=hg
 have hL:(xs.filter fun e=>!seen.toArray.contains e.born).toList=xs.toList.filter fun e=>!seen.toArray.contains e.born:=by simp
 generalize hLd:(xs.filter fun e=>!seen.toArray.contains e.born)=L at hL
 have hLold:L.filter (fun e=>decide (e.born<since))=L:=by
  rw[Array.filter_eq_self]
  intro x hx
  exact decide_eq_true (hall x (by rw[←hL];exact hx.val))
 have hLnew:L.filter (fun e=>decide (e.born≥since))=#[]:=by
  rw[Array.filter_eq_empty_iff]
  intro x hx hd
  have:=hall x (by rw[←hL];exact hx.val)
  have:=of_decide_eq_true hd
  omega
 have hcond:((!seen.toArray.isEmpty&&!xs.isEmpty&&xs.all (fun e=>decide (e.born≥stepped)))=true)→False:=by
  intro hb
  simp only[Bool.and_eq_true] at hb
  obtain⟨⟨h1,h2⟩,h3⟩:=hb
  cases hs:Aaz seen with
  |true=>
   cases seen with
   |nil=>simp at h1
   |cons=>cases hs
  |false=>
   rw[hs] at hstep
   have hstep:(Bool.rec (Agz stepped p.1) true (Aaz p.1):Bool)=true:=hstep
   cases he:Aaz p.1 with
   |true=>
    cases hpe:p.1 with
    |nil=>
     rw[hpe] at hes
     have hes:xs.toList=[]:=hes
     rw[Array.toList_eq_nil_iff.1 hes] at h2
     simp at h2
    |cons=>rw[hpe] at he;cases he
   |false=>
    rw[he] at hstep
    obtain⟨x,hx,hlt⟩:=Adw hes hstep
    have h3:=(Array.all_eq_true_iff_forall_mem.1 h3) x (Array.mem_def.2 hx)
    have:=of_decide_eq_true h3
    omega
 have hrun0:(Instr.next (.pointer (some ⟨l.blk,l.off+0,none⟩)) false ty).run P w=(do
  match(((if L.isEmpty then #[none] else #[])++(L++#[]).map some:Array (Option MapEntry)))[←choose (.mapNext ((if L.isEmpty then #[none] else #[])++(L++#[]).map some:Array (Option MapEntry)).size)]? with
  |some (some e)=>
   setObj l.blk (.mapIter (some lm.blk) since (seen.toArray.push e.born) p.2)
   pure (.tuple #[.bool true,e.key,e.val])
  |some none=>pure (.tuple #[.bool false])
  | none => stuck "Next: no such candidate" : Sem Value).run P w := by
  unfold Instr.next
  simp only[hoff,Nat.zero_add]
  rw[Aa (Et hblk (by intros;simp))]
  simp only
  rw[Aa (Et hblkm (by intros;simp))]
  simp only
  rw[if_neg (fun hh=>hcond hh),hLd,hLold,hLnew]
  rfl
 rw[hrun0]
 rw[←hL] at hleft
 cases hle:leftOf seen p.1 with
 |nil=>
  rw[hle] at hg hleft
  have hnil:L=#[]:=Array.toList_eq_nil_iff.1 hleft
  obtain⟨i,w',hr,hi,h1,h2,h3,h4⟩:=Acw (P:=P) (w:=w) 1 (by omega)
  have hi0:i=0:=by omega
  subst hi0
  refine⟨.tuple #[.bool false],w',μ,.tuple [.bool false],h,?_,s.heap h1,Dc.heap μ h h1 h2 h3 h4,⟨_,rfl,_,_,rfl,rfl,rfl⟩,hg⟩
  have hcand:((if L.isEmpty then #[none] else #[])++(L++#[]).map some:Array (Option MapEntry))=#[none]:=by rw[hnil];simp
  rw[hcand,show(#[none]:Array (Option MapEntry)).size=1 from rfl]
  rw[Aa hr]
  rfl
 |cons e0 r=>
  rw[hle] at hg hleft
  have hpos:0<L.size:=by
   obtain⟨x,xs',e,_⟩:=hleft
   have:L.toList.length=(x::xs').length:=by rw[e]
   simp at this;omega
  have hne:L.isEmpty=false:=by simp;intro e;rw[e] at hpos;simp at hpos
  have hcand:((if L.isEmpty then #[none] else #[])++(L++#[]).map some:Array (Option MapEntry))=L.map some:=by
   rw[hne];simp
  rw[hcand]
  obtain⟨i,w',hr,hi,h1,h2,h3,h4⟩:=Acw (P:=P) (w:=w) (L.map some).size (by simpa using hpos)
  have hi':i<L.size:=by simpa using hi
  obtain⟨e,he,hk1,hk2,hk3⟩:=hleft.mem L[i] (by simp)
  have hke:=Adp hg e he
  have s1:=s.heap h1
  have hblk':w'.heap[l.blk]? =some (.mapIter (some lm.blk) since seen.toArray stepped):=by rw[h1];exact hblk
  obtain⟨w2,hw2,s2,x2⟩:=s1.putObj (Pr:=P) (b:=b) (by rw[hat];rfl) hl hblk' (by intros;simp) (.mapIter (some lm.blk) since (seen.toArray.push L[i].born) p.2) (.Pz m since (Jh seen [e.2.2]) p.2) fun w' hw'=>⟨lm,hlm,by rw[hw',Pp,hk3];simp,hoff⟩
  rw[Gw] at hke
  refine⟨.tuple #[.bool true,L[i].key,L[i].val],w2,μ,.tuple [.bool true,e.1,e.2.1],_,?_,s2,(Dc.heap μ h h1 h2 h3 h4).trans x2,⟨_,rfl,_,_,rfl,rfl,_,_,rfl,hk1,_,_,rfl,hk2,rfl⟩,hke⟩
  rw[Aa hr]
  have hget:(L.map some)[i]? =some (some L[i]):=by simp[hi']
  rw[hget]
  simp only
  rw[Aa hw2]
  rfl
end Go.Den
namespace Go.Den
open Go.RowKit
theorem Afz:Bpg Bfi where
 init l t:=by
  show(Option.rec AV.undef (fun v=>v) (Ej l t):AV)=_
  rw[Eo,List.getD_eq_getElem?_getD]
  cases l[t]?<;>rfl
 set f t v u:=by
  show(Bool.rec (f u) v (Nat.beq u t):AV)=_
  rw[Gt]
  by_cases e:u=t
  · rw[if_pos e,decide_eq_true e]
  · rw[if_neg e,decide_eq_false e];rfl
 force f k:=rfl
theorem Hr(f:FT)(d:Nat)(v:AV)(u:Nat):Ao f d v u=if u=d then v else f u:=Afz.set f d v u
theorem Xw(f:FT):∀(l:List Nat)(t:Nat),Pd l f t=.top∨Pd l f t=f t
 |[],_=>.inl rfl
 |u::l,t=>by
  show Ao (Pd l f) u (f u) t=.top∨Ao (Pd l f) u (f u) t=f t
  rw[Hr]
  by_cases e:t=u
  · rw[if_pos e,e];exact .inr rfl
  · rw[if_neg e];exact Xw f l t
section
variable{P:Program}{D:List Deferred}
structure FR(μ:Mu)(N:Nat)(D:List Deferred)(f:FT)(a:Act):Prop where
 size:N≤a.tmps.size
 get:∀t,VR μ (f t) (a.tmps.getD t undef)
 defs:a.defers=D
theorem FR.mono{μ μ':Mu}(h:Mu.le μ μ'){N:Nat}{f:FT}{a:Act}(r:FR μ N D f a):FR μ' N D f a:=⟨r.size,fun t=>VR.mono h _ _ (r.get t),r.defs⟩
theorem Aiv(ts:Array Value)(d t:Nat)(v:Value)(h:d<ts.size):(ts.setIfInBounds d v).getD t undef=if t=d then v else ts.getD t undef:=by
 simp only[Array.getD_eq_getD_getElem?,Array.getElem?_setIfInBounds]
 by_cases e:d=t
 · subst e;simp[h]
 · rw[if_neg e,if_neg (fun h=>e h.symm)]
def Px(N:Nat)(d:Option Tmp):Bool:=match d with
 |none=>true
 |some d=>Nat.blt d N
theorem FR.put{μ:Mu}{N:Nat}{f:FT}{a:Act}(r:FR μ N D f a){d:Option Tmp}(hd:Px N d=true){av:AV}{v:Value}(hv:VR μ av v):FR μ N D (Du f d av) (a.put d v):=by
 cases d with
 |none=>exact r
 |some d=>
  have hd:d<N:=by simpa[Px] using hd
  refine⟨by simpa[Act.put] using r.size,fun t=>?_,r.defs⟩
  show VR μ (Ao f d av t) ((a.tmps.setIfInBounds d v).getD t undef)
  rw[Hr,Aiv _ _ _ _ (Nat.lt_of_lt_of_le hd r.size)]
  by_cases e:t=d
  · rw[if_pos e,if_pos e];exact hv
  · rw[if_neg e,if_neg e];exact r.get t
theorem FR.eval{E:Env}{μ:Mu}{N G:Nat}{f:FT}{a:Act}(r:FR μ N D f a)(gl:Hj μ G){o:Operand}(ho:Eu G o=true):VR μ (eval' E o f) (a.eval o):=
 Zb (C:=CP E) gl ho fun t _=>r.get t
def Hx(P:Program)(E:Env)(N G:Nat)(o:Oper):Bool:=Px N o.dst&&Aag P E G o.op
def yb(o:Option Value):Option Bool:=match o with
 |some (.bool b)=>some b
 |_=>none
theorem Jl(ops:Array Oper)(ts:Array Value)(j:Nat):yielded ops ts j=yb (((ops[j]?).bind (·.dst)).bind (ts[·]?)):=rfl
def Live(ops:Array Oper)(gs:List (Nat×Bool×Tmp))(a:Act):Prop:=∀g∈gs,((ops[g.1]?).bind (·.dst))=some g.2.2∧yb (a.tmps[g.2.2]?)=some g.2.1
def Sx(d:Option Tmp)(gs:List (Nat×Bool×Tmp)):Bool:=match d with
 |none=>true
 |some d=>gs.all fun g=>!Nat.beq g.2.2 d
theorem Act.Um(a:Act)(d:Option Tmp)(v:Value):(a.put d v).tmps.size=a.tmps.size:=by cases d<;>simp[Act.put]
theorem Jm{a:Act}{d:Option Tmp}{v:Value}{t:Nat}(h:d≠some t):(a.put d v).tmps[t]? =a.tmps[t]? :=by
 cases d with
 |none=>rfl
 |some d=>
  have:d≠t:=fun e=>h (by rw[e])
  simp[Act.put,Array.getElem?_setIfInBounds_ne this]
theorem Qw{d:Option Tmp}{gs:List (Nat×Bool×Tmp)}(h:Sx d gs=true):∀g∈gs,d≠some g.2.2:=by
 intro g hg e
 subst e
 have:=List.all_eq_true.1 (show gs.all (fun g'=>!Nat.beq g'.2.2 g.2.2)=true from h) g hg
 simp at this
theorem Live.put{ops:Array Oper}{gs:List (Nat×Bool×Tmp)}{a:Act}(l:Live ops gs a){d:Option Tmp}(h:Sx d gs=true)(v:Value):Live ops gs (a.put d v):=fun g hg=>
 ⟨(l g hg).1,by rw[Jm (Qw h g hg)];exact(l g hg).2⟩
theorem Lp{a b:Option (Nat×Bool)}(h:Fx a b=true):a=b:=by
 have key:∀v w,Fx.Aqw v w=true→v=w:=by intro v w;cases v<;>cases w<;>simp[Fx.Aqw]
 cases a with
 |none=>cases b with
  |none=>rfl
  |some=>cases h
 |some p=>cases b with
  |none=>cases h
  |some q=>
   obtain⟨i,v⟩:=p;obtain⟨j,w⟩:=q
   have h:(Nat.beq i j&&Fx.Aqw v w)=true:=h
   rw[Bool.and_eq_true] at h
   rw[Nat.eq_of_beq_eq_true h.1,key _ _ h.2]
def Aip(o:Operand):Bool:=match o with
 |.const _=>true
 |_=>false
def A2r(c:Operand)(gd:Tmp):Bool:=match c with
 |.tmp t=>Nat.beq t gd
 |_=>false
def Qu(G:Nat)(gd:Tmp)(w:Bool)(o:Op):Bool:=match o with
 |.pick c x y=>A2r c gd&&Eu G x&&Eu G y&&Aip (Ed w y x)
 |_=>false
def Avt(t:Tmp)(l:List (Option Tmp)):Bool:=l.any fun d=>match d with
 |some d=>Nat.beq d t
 |none=>false
def Iq(P:Program)(E:Env)(N G:Nat)(ops:List Oper)(its:Its):Option (Nat×Bool)→List (Nat×Bool×Tmp)→List (Option Tmp)→Bool:=Its.rec (motive:=fun _=>Option (Nat×Bool)→List (Nat×Bool×Tmp)→List (Option Tmp)→Bool)
 (fun _ _ _=>true)
 (fun o _ ih g gs prev=>and (and (Hx P E N G o) (and (Fx o.guard g) (Sx o.dst gs))) (ih g gs (o.dst::prev)))
 (fun j gd w _ pk _ ihb ihr g gs prev=>and (and (and (Px N pk.dst) (and (Fx pk.guard g) (Sx pk.dst gs))) (and (Qu G gd w pk.op) (and (Avt gd prev) (Option.rec false (fun o=>Option.rec false (fun d=>Nat.beq d gd) o.dst) (Ej ops j)))))
  (and (ihb (some (j,w)) ((j,w,gd)::gs) []) (ihr g gs (pk.dst::prev)))) its
def Ek(l:List Oper)(a:Act):Act:=l.foldl (fun a o=>a.put o.dst undef) a
theorem Kb(o:Oper)(l:List Oper)(a:Act):Ek (o::l) a=Ek l (a.put o.dst undef):=rfl
theorem Ab5(l m:List Oper)(a:Act):Ek (l++m) a=Ek m (Ek l a):=List.foldl_append ..
theorem Qr(l:List Oper):∀a:Act,(Ek l a).tmps.size=a.tmps.size:=by
 induction l with
 |nil=>intro a;rfl
 |cons o l ih=>intro a;rw[Kb,ih,Act.Um]
theorem Ab4(l:List Oper):∀a:Act,(Ek l a).defers=a.defers:=by
 induction l with
 |nil=>intro a;rfl
 |cons o l ih=>intro a;rw[Kb,ih];cases o.dst<;>rfl
theorem Ac3{l:List Oper}{t:Nat}:∀{a:Act},(∀o∈l,o.dst≠some t)→(Ek l a).tmps[t]? =a.tmps[t]? :=by
 induction l with
 |nil=>intro a _;rfl
 |cons o l ih=>intro a h;rw[Kb,ih (fun x hx=>h x (by simp[hx])),Jm (h o (by simp))]
theorem Wp{a:Act}{d:Option Tmp}{t:Nat}(h:a.tmps[t]? =some undef):(a.put d undef).tmps[t]? =some undef:=by
 cases d with
 |none=>exact h
 |some d=>
  by_cases e:d=t
  · subst e
    have:d<a.tmps.size:=(Array.getElem?_eq_some_iff.1 h).1
    simp[Act.put,this]
  · rw[Jm (by simpa using e)];exact h
theorem Afe{l:List Oper}{t:Nat}:∀{a:Act},a.tmps[t]? =some undef→(Ek l a).tmps[t]? =some undef:=by
 induction l with
 |nil=>intro a h;exact h
 |cons o l ih=>intro a h;rw[Kb];exact ih (Wp h)
theorem Ahx{a:Act}{d:Tmp}{v:Value}(h:d<a.tmps.size):(a.put (some d) v).tmps[d]? =some v:=by simp[Act.put,h]
variable{E:Env}{N G:Nat}{ops:Array Oper}{Q:Exit→Act→World→Prop}
theorem Lr:∀{its:Its}{g:Option (Nat×Bool)}{gs:List (Nat×Bool×Tmp)}{prev:List (Option Tmp)},Iq P E N G ops.toList its g gs prev=true→∀o∈its.flat,Px N o.dst=true∧∀x∈gs,o.dst≠some x.2.2
 |.nil,_,_,_,_,o,ho=>by simp[Its.flat] at ho
 |.op o r,g,gs,prev,h,x,hx=>by
  have h:(((Hx P E N G o)&&(Fx o.guard g&&Sx o.dst gs))&&Iq P E N G ops.toList r g gs (o.dst::prev))=true:=h
  simp only[Bool.and_eq_true] at h
  rcases List.mem_cons.1 (show x∈o::r.flat from hx) with rfl|hx
  · refine⟨?_,Qw h.1.2.2⟩
    have:=h.1.1
    simp only[Hx,Bool.and_eq_true] at this
    exact this.1
  · exact Lr h.2 x hx
 |.grp j gd w b pk r,g,gs,prev,h,x,hx=>by
  have h:(((Px N pk.dst)&&(Fx pk.guard g&&Sx pk.dst gs))&&(Qu G gd w pk.op&&(Avt gd prev&&_))&&(Iq P E N G ops.toList b (some (j,w)) ((j,w,gd)::gs) []&&Iq P E N G ops.toList r g gs (pk.dst::prev)))=true:=h
  simp only[Bool.and_eq_true] at h
  rcases List.mem_append.1 (show x∈b.flat++pk::r.flat from hx) with hx|hx
  · have:=Lr h.2.1 x hx
    exact⟨this.1,fun y hy=>this.2 y (by simp[hy])⟩
  · rcases List.mem_cons.1 hx with rfl|hx
    · exact⟨h.1.1.1,Qw h.1.1.2.2⟩
    · exact Lr h.2.2 x hx
theorem Avs{t:Tmp}{l:List (Option Tmp)}(h:Avt t l=true):some t∈l:=by
 obtain⟨d,hd,h⟩:=List.any_eq_true.1 h
 cases d with
 |none=>cases h
 |some d=>rw[Nat.eq_of_beq_eq_true h] at hd;exact hd
theorem Ze {ro : Option Nat} : ∀ {its : Its} {j : Nat} {w : Bool} {gd : Tmp} {gs : List (Nat × Bool × Tmp)} {prev : List (Option Tmp)} {rest : List Oper} {a : Act} {wd : World}, Iq P E N G ops.toList its (some (j, w)) ((j, w, gd) :: gs) prev = true → N ≤ a.tmps.size →
    ((ops[j]?).bind (·.dst)) = some gd → yb (a.tmps[gd]?) ≠ some w → (∀ t, some t ∈ prev → a.tmps[t]? = some undef) → wpListIn (Fo ro) 0 P ops Q rest (Ek its.flat a) wd → wpListIn (Fo ro) 0 P ops Q (its.flat ++ rest) a wd
  | .nil, _, _, _, _, _, _, _, _, _, _, _, _, _, hr => hr
  | .op o r, j, w, gd, gs, prev, rest, a, wd, h, hN, hj, hy, hp, hr => by
    have h : (((Hx P E N G o) && (Fx o.guard (some (j, w)) && Sx o.dst ((j, w, gd) :: gs))) && Iq P E N G ops.toList r (some (j, w)) ((j, w, gd) :: gs) (o.dst :: prev)) = true := h
    simp only [Bool.and_eq_true] at h
    have hwant : Region.wanted o (yielded ops a.tmps) = false := by
      unfold Region.wanted
      rw [Lp h.1.2.1]
      show (yielded ops a.tmps j == some w) = false
      rw [Jl, hj]
      simpa using hy
    show wpListIn (Fo ro) 0 P ops Q (o :: (r.flat ++ rest)) a wd
    unfold wpListIn
    rw [hwant, if_neg (by simp)]
    refine ⟨fun _ _ => trivial, ?_⟩
    have hne := Qw h.1.2.2 (j, w, gd) (by simp)
    refine Ze h.2 (by rw [Act.Um]; exact hN) hj (by rw [Jm hne]; exact hy) ?_ hr
    intro t ht
    rcases List.mem_cons.1 ht with e | ht
    · rw [← e]
      refine Ahx (Nat.lt_of_lt_of_le ?_ hN)
      have := h.1.1
      simp only [Hx, Bool.and_eq_true] at this
      rw [← e] at this
      simpa [Px] using this.1
    · exact Wp (hp t ht)
  | .grp j' gd' w' b pk r, j, w, gd, gs, prev, rest, a, wd, h, hN, hj, hy, hp, hr => by
    have h : (((Px N pk.dst) && (Fx pk.guard (some (j, w)) && Sx pk.dst ((j, w, gd) :: gs))) && (Qu G gd' w' pk.op && (Avt gd' prev && (Option.rec false (fun o => Option.rec false (fun d => Nat.beq d gd') o.dst) (Ej ops.toList j'))))
      && (Iq P E N G ops.toList b (some (j', w')) ((j', w', gd') :: (j, w, gd) :: gs) [] && Iq P E N G ops.toList r (some (j, w)) ((j, w, gd) :: gs) (pk.dst :: prev))) = true := h
    simp only [Bool.and_eq_true] at h
    obtain ⟨⟨⟨hd, hg, hn⟩, hpk, ht, hjd⟩, hb, hrr⟩ := h
    have hj' : ((ops[j']?).bind (·.dst)) = some gd' := by
      rw [Eo, Array.getElem?_toList] at hjd
      cases ho : ops[j']? with
      | none => rw [ho] at hjd; cases hjd
      | some o =>
        rw [ho] at hjd
        have hjd : (Option.rec false (fun d => Nat.beq d gd') o.dst : Bool) = true := hjd
        show o.dst = some gd'
        cases hod : o.dst with
        | none => rw [hod] at hjd; cases hjd
        | some d => rw [hod] at hjd; rw [Nat.eq_of_beq_eq_true hjd]
    have hu := hp gd' (Avs ht)
    show wpListIn (Fo ro) 0 P ops Q ((b.flat ++ pk :: r.flat) ++ rest) a wd
    rw [List.append_assoc]
    refine Ze hb hN hj' (by rw [hu]; simp [yb, undef]) (by simp) ?_
    have hbd := Lr hb
    have hgd : (Ek b.flat a).tmps[gd]? = a.tmps[gd]? := Ac3 fun o ho => (hbd o ho).2 (j, w, gd) (by simp)
    have hwant : Region.wanted pk (yielded ops (Ek b.flat a).tmps) = false := by
      unfold Region.wanted
      rw [Lp hg]
      show (yielded ops (Ek b.flat a).tmps j == some w) = false
      rw [Jl, hj]
      show (yb ((Ek b.flat a).tmps[gd]?) == some w) = false
      rw [hgd]
      simpa using hy
    show wpListIn (Fo ro) 0 P ops Q (pk :: (r.flat ++ rest)) _ wd
    unfold wpListIn
    rw [hwant, if_neg (by simp)]
    refine ⟨fun _ _ => trivial, ?_⟩
    have hne := Qw hn (j, w, gd) (by simp)
    refine Ze hrr (by rw [Act.Um, Qr]; exact hN) hj (by rw [Jm hne, hgd]; exact hy) ?_ ?_
    · intro t ht
      rcases List.mem_cons.1 ht with e | ht
      · rw [← e]
        refine Ahx (Nat.lt_of_lt_of_le ?_ (by rw [Qr]; exact hN))
        rw [← e] at hd
        simpa [Px] using hd
      · exact Wp (Afe (hp t ht))
    · have : Ek (Its.grp j' gd' w' b pk r).flat a = Ek r.flat ((Ek b.flat a).put pk.dst undef) := by
        show Ek (b.flat ++ pk :: r.flat) a = _
        rw [Ab5, Kb]
      rw [← this]; exact hr
end
end Go.Den
namespace Go.Den
open Go.RowKit
section
variable{P:Program}{E:Env}{N G:Nat}{D:List Deferred}{ops:Array Oper}{Q:Exit→Act→World→Prop}
def Fg(l:List Oper)(a a':Act):Prop:=a'.tmps.size=a.tmps.size∧∀t,(∀o∈l,o.dst≠some t)→a'.tmps[t]? =a.tmps[t]?
theorem Fg.refl(l:List Oper)(a:Act):Fg l a a:=⟨rfl,fun _ _=>rfl⟩
theorem Fg.cons{o:Oper}{l:List Oper}{a a':Act}{v:Value}(h:Fg l (a.put o.dst v) a'):Fg (o::l) a a':=
 ⟨h.1.trans (Act.Um _ _ _),fun t ht=>(h.2 t fun x hx=>ht x (by simp[hx])).trans (Jm (ht o (by simp)))⟩
theorem Fg.append{l m:List Oper}{a a' b:Act}(h:Fg l a a')(k:Fg m a' b):Fg (l++m) a b:=
 ⟨k.1.trans h.1,fun t ht=>(k.2 t fun x hx=>ht x (by simp[hx])).trans (h.2 t fun x hx=>ht x (by simp[hx]))⟩
theorem Fg.Ek(l:List Oper)(a:Act):Fg l a (Ek l a):=⟨Qr l a,fun _ ht=>Ac3 ht⟩
theorem Avx (l : List Oper) : ∀ (f : FT) (t : Nat), Acb l f t = .top ∨ (Acb l f t = f t ∧ ∀ o ∈ l, o.dst ≠ some t) := by
  induction l with
  | nil => intro f t; exact .inr ⟨rfl, by simp⟩
  | cons o l ih =>
    intro f t
    show Acb l (Du f o.dst .top) t = .top ∨ (Acb l (Du f o.dst .top) t = f t ∧ _)
    rcases ih (Du f o.dst .top) t with h | ⟨h, hl⟩
    · exact .inl h
    · rw [h]
      cases hd : o.dst with
      | none => exact .inr ⟨rfl, by intro x hx; rcases List.mem_cons.1 hx with rfl | hx; · rw [hd]; simp
                                    · exact hl x hx⟩
      | some d =>
        show Ao f d .top t = .top ∨ _
        rw [Hr]
        by_cases e : t = d
        · left; rw [if_pos e]
        · right
          refine ⟨by rw [show Du f (some d) AV.top t = Ao f d .top t from rfl, Hr, if_neg e], ?_⟩
          intro x hx
          rcases List.mem_cons.1 hx with rfl | hx
          · rw [hd]; simpa using fun h => e h.symm
          · exact hl x hx
theorem FR.top{μ:Mu}{f:FT}{a a':Act}{l:List Oper}(r:FR μ N D f a)(s:Fg l a a')(hd:a'.defers=D):FR μ N D (Acb l f) a':=by
 refine⟨by rw[s.1];exact r.size,fun t=>?_,hd⟩
 rcases Avx l f t with h|⟨h,hl⟩
 · rw[h];trivial
 · rw[h]
   have:=r.get t
   rw[Array.getD_eq_getD_getElem?] at this ⊢
   rw[s.2 t hl];exact this
def Adi(gs:List (Nat×Bool×Tmp)):Option (Nat×Bool):=match gs with
 |[]=>none
 |g::_=>some (g.1,g.2.1)
theorem Qh{o:Oper}{gs:List (Nat×Bool×Tmp)}{a:Act}(hg:o.guard=Adi gs)(l:Live ops gs a):Region.wanted o (yielded ops a.tmps)=true:=by
 unfold Region.wanted
 rw[hg]
 cases gs with
 |nil=>rfl
 |cons g gs=>
  obtain⟨h1,h2⟩:=l g (by simp)
  show(yielded ops a.tmps g.1==some g.2.1)=true
  rw[Jl,h1]
  show(yb (a.tmps[g.2.2]?)==some g.2.1)=true
  rw[h2];simp
theorem Apb{ro:Option Nat}{pk:Oper}{c x y:Operand}(hpk:pk.op=.pick c x y){a:Act}{w:World}{t:Bool}(hc:a.eval c=.bool t){next:Act→World→Prop}(h:next (a.put pk.dst (a.eval (Ed t x y))) w):pk.wpIn (Fo ro) 0 P a w next Q:=by
 have:(execOp a.eval pk).run P w=.ok (.value (a.eval (Ed t x y))) w:=by
  unfold execOp
  rw[hpk]
  simp only[hc]
  cases t<;>rfl
 refine Iu (fun c e=>by rw[hpk] at e;cases e) ?_
 rw[this]
 exact h
theorem Aaf{gd:Tmp}{w:Bool}{o:Op}(h:Qu G gd w o=true):∃x y v,o=.pick (.tmp gd) x y∧Eu G x=true∧Eu G y=true∧Ed w y x=.const v:=by
 cases o<;>try cases h
 rename_i c x y
 have h:(A2r c gd&&Eu G x&&Eu G y&&Aip (Ed w y x))=true:=h
 simp only[Bool.and_eq_true] at h
 obtain⟨⟨⟨h1,h2⟩,h3⟩,h4⟩:=h
 cases c<;>try cases h1
 rename_i t
 have e:=Nat.eq_of_beq_eq_true h1
 subst e
 cases hq:Ed w y x<;>rw[hq] at h4<;>first|exact⟨x,y,_,rfl,by assumption,by assumption,hq⟩|cases h4
theorem Sv{w:Bool}{x y:Operand}(hx:Eu G x=true)(hy:Eu G y=true):Eu G (Ed w x y)=true:=by cases w<;>assumption
theorem Live.same{gs:List (Nat×Bool×Tmp)}{a a':Act}{l:List Oper}(h:Live ops gs a)(s:Fg l a a')(hl:∀o∈l,∀g∈gs,o.dst≠some g.2.2):Live ops gs a':=fun g hg=>
 ⟨(h g hg).1,by rw[s.2 g.2.2 fun o ho=>hl o ho g hg];exact(h g hg).2⟩
def Bph(_P:Program)(N:Nat)(D:List Deferred)(ops:Array Oper)(gs:List (Nat×Bool×Tmp))(its:Its)(μ:Mu)(h:H)(a:Act)(w:World)(K:FT→H→Prop)(q:Act→World→Prop):Prop:=
 ∀(μ':Mu)(f':FT)(h':H)(a':Act)(w':World),FR μ' N D f' a'→Sim μ' h' w'→Dc μ h w μ' h' w'→Live ops gs a'→Fg its.flat a a'→K f' h'→q a' w'
theorem Av7{ro:Option Nat}(ok:Cg P E){call:CF}(hcall:Fb P (CP E) G (fun p=>p) call){o:Oper}(hop:Aag P E G o.op=true){μ:Mu}{f:FT}{h:H}{a:Act}{w:World}{k:KV}{next:Act→World→Prop}{Q:Exit→Act→World→Prop}
 (hv:∀x∈o.op.operands.toList,VR μ (eval (CP E) x f) (a.eval x)) (s:Sim μ h w) (gl:Hj μ G) (hg:Av8 E o.op call f h k) (g:Aj0 (CP E) μ h w (fun p=>p) k a o.dst next):o.wpIn (Fo ro) 0 P a w next Q:=by
 by_cases hnx:∃x,o.op=.next x false
 · obtain⟨x,e⟩:=hnx
   rw[e] at hg
   obtain⟨v,w',μ',av,h',hr,s',x',hv',hk⟩:=Auq (P:=P) (ty:=o.type) s (show Aur (eval' E x f) h k from hg) (hv x (by rw[e];simp[Op.operands]))
   refine Iu (fun c hc=>by rw[e] at hc;cases hc) ?_
   have he:execOp a.eval o=(do pure (.value (←Instr.next (a.eval x) false o.type))):=by
    obtain⟨dst,op,type,pos,after,guard⟩:=o
    cases e;rfl
   rw[he,Aa hr]
   exact g _ _ _ _ _ s' x' hv' hk
 · have hg2:Ea E o.op call f h k:=by
    cases ho:o.op<;>rw[ho] at hg<;>try exact hg
    rename_i x b
    cases b with
    |true=>exact hg
    |false=>exact absurd ⟨x,ho⟩ hnx
   exact Af7 (C:=CP E) (good:=fun p=>p) (fun h=>h) ok hcall hop hv s gl (Aa8 hg2) g
theorem Wt {ro : Option Nat} (ok : Cg P E) {call : CF} (hcall : Fb P (CP E) G (fun p => p) call) : ∀ (its : Its) {gs : List (Nat × Bool × Tmp)} {prev : List (Option Tmp)}, Iq P E N G ops.toList its (Adi gs) gs prev = true →
    ∀ {μ : Mu} {f : FT} {h : H} {a : Act} {w : World} {K : FT → H → Prop} {rest : List Oper}, FR μ N D f a → Sim μ h w → Hj μ G → Live ops gs a → Gh E call its f h K → Bph P N D ops gs its μ h a w K (wpListIn (Fo ro) 0 P ops Q rest) → wpListIn (Fo ro) 0 P ops Q (its.flat ++ rest) a w
  | .nil, gs, prev, _, μ, f, h, a, w, K, rest, fr, s, _, l, hr, he => he μ f h a w fr s (.refl _ _ _) l (.refl _ _) hr
  | .op o r, gs, prev, hk, μ, f, h, a, w, K, rest, fr, s, gl, l, hr, he => by
    have hk : (((Hx P E N G o) && (Fx o.guard (Adi gs) && Sx o.dst gs)) && Iq P E N G ops.toList r (Adi gs) gs (o.dst :: prev)) = true := hk
    simp only [Bool.and_eq_true, Hx] at hk
    obtain ⟨⟨⟨hd, hop⟩, hg, hn⟩, hrr⟩ := hk
    have hr : Av8 E o.op call f h (fun v h => coK E o.type v (fun v => Gh E call r (Du f o.dst v) h K)) := hr
    have hopn : ∀ x ∈ o.op.operands.toList, Eu G x = true := by
      have hop := hop
      simp only [Aag, Bool.and_eq_true] at hop
      exact fun x hx => (List.all_eq_true.1 hop.1) x hx
    show wpListIn (Fo ro) 0 P ops Q (o :: (r.flat ++ rest)) a w
    unfold wpListIn
    rw [Qh (Lp hg) l, if_pos rfl]
    refine Av7 ok hcall hop (fun x hx => fr.eval gl (hopn x hx)) s gl hr ?_
    intro μ' av h' v w' s' x' hv hg'
    refine Wt ok hcall r hrr ((fr.mono x'.le).put hd hv) s' (gl.mono x'.le) (l.put hn v) (Vt hg') ?_
    intro μ'' f'' h'' a'' w'' fr'' s'' x'' l'' sb hK
    exact he _ _ _ _ _ fr'' s'' (x'.trans x'') l'' (Fg.cons sb) hK
  | .grp j gd wt b pk r, gs, prev, hk, μ, f, h, a, w, K, rest, fr, s, gl, l, hr, he => by
    have hk : (((Px N pk.dst) && (Fx pk.guard (Adi gs) && Sx pk.dst gs)) && (Qu G gd wt pk.op && (Avt gd prev && (Option.rec false (fun o => Option.rec false (fun d => Nat.beq d gd) o.dst) (Ej ops.toList j))))
      && (Iq P E N G ops.toList b (some (j, wt)) ((j, wt, gd) :: gs) [] && Iq P E N G ops.toList r (Adi gs) gs (pk.dst :: prev))) = true := hk
    simp only [Bool.and_eq_true] at hk
    obtain ⟨⟨⟨hd, hg, hn⟩, hpk, _, hjd⟩, hb, hrr⟩ := hk
    have hj : ((ops[j]?).bind (·.dst)) = some gd := by
      rw [Eo, Array.getElem?_toList] at hjd
      cases ho : ops[j]? with
      | none => rw [ho] at hjd; cases hjd
      | some o =>
        rw [ho] at hjd
        have hjd : (Option.rec false (fun d => Nat.beq d gd) o.dst : Bool) = true := hjd
        show o.dst = some gd
        cases hod : o.dst with
        | none => rw [hod] at hjd; cases hjd
        | some d => rw [hod] at hjd; rw [Nat.eq_of_beq_eq_true hjd]
    obtain ⟨x, y, cv, epk, hx, hy, hcv⟩ := Aaf hpk
    obtain ⟨t, hft, hr⟩ := Gx (show asB (f gd) (fun t => A8t E wt b.flat pk t (Gh E call b) (Gh E call r) f h K) from hr)
    have hvt : a.tmps.getD gd undef = .bool t := by have := fr.get gd; rw [hft] at this; exact this
    have hgt : a.tmps[gd]? = some (.bool t) := by
      rw [Array.getD_eq_getD_getElem?] at hvt
      cases hq : a.tmps[gd]? with
      | none => rw [hq] at hvt; cases hvt
      | some v => rw [hq] at hvt; exact congrArg some hvt
    have hr : Ay (fun kj => gate wt t (Gh E call b f h (fun f h => asB (eval' E (Ed wt x y) f) (fun v => kj v h))) (asB (eval' E (Ed wt y x) f) (fun v => kj v h)))
        (fun v h => Gh E call r (Du (Acb b.flat f) pk.dst (.bool v)) h K) := by
      unfold A8t at hr
      rw [epk] at hr
      exact hr
    have hbd := Lr hb
    show wpListIn (Fo ro) 0 P ops Q ((b.flat ++ pk :: r.flat) ++ rest) a w
    rw [List.append_assoc]
    by_cases hw : t = wt
    · subst hw
      have hr : Gh E call b f h (fun f' h' => asB (eval' E (Ed t x y) f') (fun v => Gh E call r (Du (Acb b.flat f) pk.dst (.bool v)) h' K)) := by cases t <;> exact hr
      refine Wt ok hcall b (gs := (j, t, gd) :: gs) hb fr s gl ?_ hr ?_
      · intro g hg'
        rcases List.mem_cons.1 hg' with rfl | hg'
        · exact ⟨hj, by show yb (a.tmps[gd]?) = some t; rw [hgt]; rfl⟩
        · exact l g hg'
      · intro μ' f' h' a' w' fr' s' x' l' sb hK
        obtain ⟨v, hv, hK⟩ := Gx hK
        have lo : Live ops gs a' := fun g hg' => l' g (by simp [hg'])
        show wpListIn (Fo ro) 0 P ops Q (pk :: (r.flat ++ rest)) a' w'
        unfold wpListIn
        rw [Qh (Lp hg) lo, if_pos rfl]
        have hc : a'.eval (.tmp gd) = .bool t := by
          have := (l' (j, t, gd) (by simp)).2
          have h2 : yb (a'.tmps[gd]?) = some t := this
          show a'.tmps.getD gd undef = .bool t
          rw [Array.getD_eq_getD_getElem?]
          cases hq : a'.tmps[gd]? with
          | none => rw [hq] at h2; cases h2
          | some u => rw [hq] at h2; cases u <;> simp [yb] at h2; subst h2; rfl
        have hev : a'.eval (Ed t x y) = .bool v := by
          have := fr'.eval (E := E) (gl.mono x'.le) (Sv (w := t) hx hy)
          rw [hv] at this; exact this
        refine Apb epk hc ?_
        rw [hev]
        refine Wt ok hcall r hrr (((fr.mono x'.le).top sb fr'.defs).put hd (av := .bool v) (rfl : VR μ' (.bool v) (.bool v))) s' (gl.mono x'.le) (lo.put hn _) hK ?_
        intro μ'' f'' h'' a'' w'' fr'' s'' x'' l'' sb' hK'
        exact he _ _ _ _ _ fr'' s'' (x'.trans x'') l'' (sb.append (Fg.cons sb')) hK'
    · have hr : asB (eval' E (Ed wt y x) f) (fun v => Gh E call r (Du (Acb b.flat f) pk.dst (.bool v)) h K) := by
        cases t <;> cases wt <;> first | exact hr | exact absurd rfl hw
      obtain ⟨v, hv, hK⟩ := Gx hr
      refine Ze hb fr.size hj (by rw [hgt]; simpa [yb] using hw) (by simp) ?_
      have sb : Fg b.flat a (Ek b.flat a) := .Ek _ _
      have lo : Live ops gs (Ek b.flat a) := l.same sb fun o ho g hg' => (hbd o ho).2 g (by simp [hg'])
      show wpListIn (Fo ro) 0 P ops Q (pk :: (r.flat ++ rest)) _ w
      unfold wpListIn
      rw [Qh (Lp hg) lo, if_pos rfl]
      have hc : (Ek b.flat a).eval (.tmp gd) = .bool t := by
        show (Ek b.flat a).tmps.getD gd undef = .bool t
        rw [Array.getD_eq_getD_getElem?, sb.2 gd fun o ho => (hbd o ho).2 (j, wt, gd) (by simp), hgt]; rfl
      have hch : Ed t x y = Ed wt y x := by cases t <;> cases wt <;> first | rfl | exact absurd rfl hw
      have hev : (Ek b.flat a).eval (Ed t x y) = .bool v := by
        have := fr.eval (E := E) gl (Sv (w := wt) hy hx)
        rw [hv] at this
        have this : a.eval (Ed wt y x) = .bool v := this
        rw [hch, hcv] at *
        exact this
      refine Apb epk hc ?_
      rw [hev]
      refine Wt ok hcall r hrr ((fr.top sb (by rw [Ab4]; exact fr.defs)).put hd (av := .bool v) (rfl : VR μ (.bool v) (.bool v))) s gl (lo.put hn _) hK ?_
      intro μ'' f'' h'' a'' w'' fr'' s'' x'' l'' sb' hK'
      exact he _ _ _ _ _ fr'' s'' x'' l'' (sb.append (Fg.cons sb')) hK'
theorem Zm(l0:List Oper):∀(n:Nat)(g:Option (Nat×Bool))(l:List Oper),(Hl l0 n g l).1.flat++(Hl l0 n g l).2=l:=by
 intro n
 induction n with
 |zero=>intro g l;rfl
 |succ n ih=>
  intro g l
  cases l with
  |nil=>rfl
  |cons o l'=>
   show(Uc l0 (Hl l0 n) g (o::l')).1.flat++(Uc l0 (Hl l0 n) g (o::l')).2=o::l'
   unfold Uc
   simp only
   cases hs:Fx o.guard g with
   |true=>
    simp only
    have:=ih g l'
    generalize Hl l0 n g l'=q at this ⊢
    obtain⟨q1,q2⟩:=q
    show o::(q1.flat++q2)=o::l'
    rw[this]
   |false=>
    simp only
    cases hg:o.guard with
    |none=>rfl
    |some p=>
     simp only
     cases A1c l0 g p.1 with
     |none=>rfl
     |some gd=>
      simp only
      have hb:=ih (some p) (o::l')
      generalize Hl l0 n (some p) (o::l')=q at hb ⊢
      obtain⟨q1,q2⟩:=q
      cases q2 with
      |nil=>rfl
      |cons pk l''=>
       simp only
       have hc:=ih g l''
       generalize Hl l0 n g l''=z at hc ⊢
       obtain⟨z1,z2⟩:=z
       show(q1.flat++pk::z1.flat)++z2=o::l'
       rw[←hb,←hc];simp
theorem Aks{l:List Oper}{its:Its}(h:Aax l=some its):its.flat=l:=by
 unfold Aax at h
 have hf:=Zm l (Nat.add (Nat.mul 2 (len l)) 2) none l
 generalize Hl l (Nat.add (Nat.mul 2 (len l)) 2) none l=q at h hf
 obtain⟨q1,q2⟩:=q
 cases q2 with
 |nil=>cases h;simpa using hf
 |cons=>cases h
end
end Go.Den
